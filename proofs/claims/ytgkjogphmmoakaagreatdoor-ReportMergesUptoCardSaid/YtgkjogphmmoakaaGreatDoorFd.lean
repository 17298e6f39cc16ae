
/- Walks of the program's functions. -/
import Derived.Test.YtgkjogphmmoakaaGreatDoorFc
set_option linter.all false
namespace Go.Proofs.YtgkjogphmmoakaaGreatDoor
open Go Go.AL
set_option maxRecDepth 100000
set_option maxHeartbeats 4000000
structure GF (B:Nat) (l:List File):Prop where
 len:l.length<=4
 all:∀f∈l,f.Path.length<=3/\f.Blob.length<=B
theorem GF.few{B:Nat}{l:List File}(h:GF B l)(b:B<=16777216):FewF l :=
 ⟨by have:=h.len;omega,fun f a=>by have:=(h.all f a).1;omega,fun f a=>by have:=(h.all f a).2;omega⟩
theorem GF.mono{B B':Nat}{l:List File}(h:GF B l)(b:B<=B'):GF B' l:=⟨h.len,fun f a=>⟨(h.all f a).1,by have:=(h.all f a).2;omega⟩⟩
theorem name4(i:Nat)(h:i<4):∃b:Str,names4[((i:Nat):Int).toNat]?=some b/\b.length<=3:=by
 rw[C31]
 match i,h with
 | 0,_=>exact⟨_,rfl,by decide⟩
 | 1,_=>exact⟨_,rfl,by decide⟩
 | 2,_=>exact⟨_,rfl,by decide⟩
 | 3,_=>exact⟨_,rfl,by decide⟩
theorem A29(k:Int):(d6 k).count 10=0:=by
 have h:∀s∈lineTab,s.count 10=0:=by decide
 have d:=a7 k (n:=10) B1;have b:(X2 k 10).toNat<lineTab.length:=by show _<10;omega
 unfold d6;rw[C33,C29 b];exact h _ (C35 b)
theorem iO(a:List Int)(k:Int):∀(l:List Str) (i:Nat) (s:Str),(Z0 a k i s l).count 10<=s.count 10+l.flatten.count 10+l.length
 | [],i,s=>by simp[Z0]
 | x::r,i,s=>by
  have e:=iO a k r (i+1) s;have f:=iO a k r (i+1) (s++d6 (l9 a (k+40+(i:Int)))++[10]++x);have g:=iO a k r (i+1) (s++x);have b:=A29 (l9 a (k+40+(i:Int)));have d:List.count (10:UInt8) [10]=1:=by decide
  simp only[C88,b,d,C56,C34]at *;unfold Z0;split
  ·omega
  split
  ·omega
  ·omega
theorem VA(a:Str)(b:List Int)(k:Int):(m6 a b k).count 10<=2*a.count 10+1:=by
 have d:=iO b k (B6 a) 0 [];have e:=X0 a;rw[V5]at d;unfold m6;simp only[List.count_nil]at d;split at e<;>omega
theorem BO(k:Int):NoDig (d6 k):=by
 have h:∀s∈lineTab,∀c∈s,c.toNat<48\/57<c.toNat:=by decide
 have d:=a7 k (n:=10) B1;have b:(X2 k 10).toNat<lineTab.length:=by show _<10;omega
 unfold d6;rw[C33,C29 b];exact h _ (C35 b)
theorem lf_dig:NoDig [10]:=fun c a=>by rw[List.mem_singleton.1 a];decide
theorem jQ(b:List Int)(k:Int):∀(l:List Str) (i:Nat) (s:Str),NoDig s->(∀x∈l,NoDig x)->NoDig (Z0 b k i s l)
 | [],_,_,hs,_=>hs
 | x::r,i,s,hs,hl=>by
  have d:=hl x s6;have c:∀y∈r,NoDig y:=fun y e=>hl y (by simp[e]);unfold Z0;split
  ·exact jQ b k r _ _ hs c
  split
  ·exact jQ b k r _ _ (((hs.app (BO _)).app lf_dig).app d) c
  ·exact jQ b k r _ _ (hs.app d) c
theorem VB{a:Str}(h:NoDig a)(b:List Int)(k:Int):NoDig (m6 a b k) :=
 jQ b k _ 0 [] (fun _ h=>by cases h) fun x e=>h.sub fun c d=>by rw[<-V5 a];exact List.mem_flatten.2 ⟨x,e,d⟩
theorem gV(d:List Int)(k b:Int):∀m,NoDig (S4 d k b m)
 | 0=>fun c e=>by simp[S4]at e
 | m+1=>by rw[m3];exact ((gV d k b m).app (BO _)).app lf_dig
theorem VC(d:List Int)(k n a:Int):NoDig (fA d k n a):=by
 unfold fA;simp only;split
 ·exact (gV d k a _).sub fun c e=>List.mem_of_mem_take e
 ·exact gV d k a _
theorem LN{α:Type}{l:List α}{i:Nat}{x:α}(h:l[i]?=some x):l.take (i+1)=l.take i++[x]:=by rw[List.take_add_one,h];rfl
structure GG (B:Nat) (g:Graph):Prop where
 len:g.length<=16
 pars:∀c∈g,c.Parents.length<=3/\∀p∈c.Parents,0<=p/\p<(g.length:Int)
 files:∀c∈g,GF B c.Files
theorem GG.few{B:Nat}{g:Graph}(h:GG B g)(b:B<=16777216):FewT g :=
 ⟨⟨by have:=h.len;omega,fun c a=>by have:=(h.pars c a).1;omega⟩,fun c a=>(h.files c a).few b⟩
theorem GG.short{B:Nat}{g:Graph}(h:GG B g):Short g:=fun c=>by
 unfold O8;by_cases a:c<g.length
 ·rw[C29 a];have:=(h.files _ (C35 a)).len;show g[c].Files.length<=6;omega
 ·rw[C49 B1];simp
structure GU (L:Nat) (g:Graph):Prop where
 up:∀c p:Nat,(p:Int)∈D8 g c->p<c
 nice:∀c∈g,c.Parents.Nodup/\0<=c.Date/\c.Date<=5
 tree:∀c∈g,GN L c.Files
theorem GU.valid{B L:Nat}{g:Graph}(h:GG B g)(p:B<=1048576)(d:L<=2111)(k:OneWay g)(i:∀c∈g,c.Parents.Nodup/\0<=c.Date/\c.Date<=5)(j:∀c∈g,GN L c.Files):GV g where
 len:=h.len
 pars:=fun c b=>⟨(h.pars c b).1,(h.pars c b).2,i c b⟩
 way:=k
 files:=fun c b=>⟨(j c b).mono d,fun f e=>by have:=((h.files c b).all f e).2;omega⟩
theorem VD{g:Graph}{k:Nat}{x:Commit}(j:Nat){p:Int}(h:p∈D8 (g.set k x) j):(j=k/\p∈x.Parents)\/p∈D8 g j:=by
 unfold D8 at h ⊢;rw[C84]at h;split at h
 ·rename_i e;split at h
  ·exact .inl ⟨e.symm,h⟩
  ·cases h
 ·exact .inr h
theorem VE(n:Int){l:List Int}(h:l.Nodup):(l.map fun q=>n-1-q).Nodup:=by
 rw[List.nodup_iff_pairwise_ne,List.pairwise_map];exact h.imp fun {a b} c e=>c B1
def bndG:Nat->Nat
 | 0=>0
 | c+1=>5*bndG c+64
def yV:Nat->Nat
 | 0=>32
 | c+1=>2*yV c+1
theorem bndG_le(c:Nat)(h:c<=6):(32<=yV c/\bndG c<=250000)/\yV c<=2111:=by
 match c,h with
 | 0,_=>decide
 | 1,_=>decide
 | 2,_=>decide
 | 3,_=>decide
 | 4,_=>decide
 | 5,_=>decide
 | 6,_=>decide
theorem GG.mono{B B':Nat}{g:Graph}(h:GG B g)(a:B<=B'):GG B' g:=⟨h.len,h.pars,fun c b=>(h.files c b).mono a⟩
theorem VF{s:Str}{i:Nat}(h:p5 (s.drop i)=none):xB s i=[E5 [],D2 0,D5 false]:=by unfold xB;rw[h]
theorem VG{s:Str}{i k:Nat}{w:Str}(h:p5 (s.drop i)=some (w,k)):xB s i=[E5 w,D2 ((i+k:Nat):Int),D5 true]:=by unfold xB;rw[h]
def m8(r:Str):List Str:=(B6 (r++[10])).map List.dropLast
theorem B30{a b:Str}(h:(10:UInt8)∉a):m8 (a++10::b)=a::m8 b:=by
 unfold m8 B6;rw[C42,C57,kN _ _ _ h];simp
theorem A30{r:Str}(h:(10:UInt8)∉r):m8 r=[r]:=by
 unfold m8 B6;rw[kN _ _ _ h];simp[G3]
theorem qR(r:Str):(m8 r).length=r.count 10+1:=by
 unfold m8;rw[C55,X0,C88,iV];simp
theorem A31{P:List Str}{i:Nat}{r a b:Str}(h:P.drop i=m8 r)(c:r=a++10::b)(ha:(10:UInt8)∉a):P[i]?=some a/\P.drop (i+1)=m8 b:=by
 have e:m8 r=a::m8 b:=by rw[c,B30 ha]
 rw[e]at h;refine⟨by rw[<-List.head?_drop,h];rfl,?_⟩;rw[<-List.tail_drop,h];rfl
theorem xF{s:Str}(h:s≠[]):cE s=if ended s=true then some (m8 s.dropLast) else none:=by
 unfold cE;rw[A6 h];by_cases b:ended s=true
 ·rw[A5 b,A5 b];obtain⟨a,rfl⟩:=A75.1 b;rw[List.dropLast_concat];rfl
 ·rw[A6 b,A6 b]
theorem LO(s:Str)(hs:s.length<=536870912):FnOk Tryz.prog 154 [E5 s,E5 [10],D2 0,D2 (-1)] (fun J=>J=[Z7 (m8 s)]):=by
 have E:=qR s;have K:s.count 10<=s.length:=List.count_le_length;have v:([10]:Str).length=1:=rfl;obtain⟨P,f⟩:∃P,P=m8 s:=⟨_,rfl⟩
 have F:P.length=s.count 10+1:=by rw[f];exact E
 refine FnOk.intro Tryz.func154 G6 Z Z Z Z ?_;refine zc 10 (fun c=>?_) fun c=>?_
 ·exact absurd (A0 c) B1
 refine zc 7 (fun c=>?_) fun c=>?_
 ·exact absurd (A0 c) s6
 refine zc 7 (fun c=>?_) fun c=>?_;rotate_left
 ·exact absurd (A1 c) B1
 skip;refine zz 3 ?_;refine D3 (nU s 10) (zz 13 ?_);rw[show (if (s.length:Int)+1<(s.count 10:Int)+1 then (s.length:Int)+1 else (s.count 10:Int)+1)=(P.length:Int) from by split<;>omega];refine zz 2 ?_;refine B8 (j5 9 Str L2 [] Z Z B1 B1 (fun _=>by first | exact⟨⟨rfl,rfl⟩,trivial⟩ | exact⟨F0 _ _ _,trivial⟩ | exact⟨F0 _ _ _,⟨rfl,rfl⟩,F0 _ _ _,trivial⟩ | exact⟨⟨rfl,rfl⟩,⟨rfl,rfl⟩,trivial⟩) YR) Z ?_;refine zz 14 ?_;refine C5 (X:=Nat×Str) (fun x=>([(0,H6 x.2),(1,H6 [10]),(2,B2 0),(3,B2 ((P.length:Int)-1)),(9,.s (.one (.mut 9))),(10,B2 x.1)],[(9,.arr Str 1 L2 (P.take x.1++List.replicate (P.length-x.1) []))])) (fun x=>x.1+1<=P.length/\P.drop x.1=m8 x.2/\x.2.length<=s.length) (fun x=>P.length-x.1) (0,s) ⟨by dsimp only;omega,f,Nat.le_refl _⟩ (Sees.of lf lo) ?_;rintro⟨i,r⟩ ⟨G,q,I⟩;dsimp only at G q I ⊢;refine zc 7 (fun c=>?_) fun c=>?_
 ·have H:i+1<P.length:=by have:=A0 c;omega
  have A:(10:UInt8)∈r:=by
   have d:=qR r;have j:(P.drop i).length=r.count 10+1:=by rw[q];exact d
   rw[C45]at j;exact List.count_pos_iff.1 B1
  rcases V7 10 r with ⟨d,_⟩ | ⟨a,b,d,j,w⟩
  ·exact absurd A d
  obtain⟨y,D⟩:=A31 q d j;have L:r.length=a.length+1+b.length:=by rw[d];simp;omega
  refine zz 6 ?_;refine D3 (vG r 10) (zz 8 ?_);rw[w];refine zc 0 (fun c=>?_) fun c=>?_
  ·exact absurd (A0 c) B1
  refine zz 28 ?_;have B:r.take (((a.length:Int)+0).toNat)=a:=by rw[d,show ((a.length:Int)+0).toNat=a.length by omega,List.take_left]
  have C:r.drop (((a.length:Int)+(([10]:Str).length:Int)).toNat)=b:=by rw[d,v,show ((a.length:Int)+((1:Nat):Int)).toNat=a.length+1 by omega,show a++10::b=(a++[10])++b by simp,List.drop_left' s6]
  refine⟨(i+1,b),⟨by dsimp only;omega,D,by dsimp only;omega⟩,by dsimp only;omega,?_⟩;rw[B,C];dsimp only;rw[<-eN P [] _ i y];exact Sees.of lf lo
 ·have z:i+1=P.length:=by have:=A1 c;omega
  have d:=qR r;have j:(P.drop i).length=r.count 10+1:=by rw[q];exact d
  rw[C45]at j;have w:(10:UInt8)∉r:=List.count_eq_zero.1 B1;have y:P[i]?=some r:=by rw[<-List.head?_drop,q,A30 w];rfl
  refine zz 10 ?_;have e:(P.take i++List.replicate (P.length-i) ([]:Str)).set (i:Int).toNat r=P:=by rw[C31,eN P [] r i y,z];simp
  rw[e];refine E2 (Sees.freeze (k:=9) Z) (zz 4 ?_);refine A7 (nN Z (.pure _ _ _ _) Z B1 B1) Z (zz 3 ?_);exact A8 (F7 rfl rfl rfl) (by rw[show ((i:Int)+1).toNat=P.length by omega,C44,f])
theorem B31(s:Str)(hs:s.length<=536870912):FnOk Tryz.prog 84 [E5 s,E5 [10]] (fun rs=>rs=[Z7 (m8 s)]):=by
 refine FnOk.intro Tryz.func84 G6 Z Z Z Z (zz 8 ?_);refine D3 (LO s hs) (zz 3 ?_);exact A8 (F7 rfl rfl rfl) rfl
theorem pP(s p:Str):FnOk Tryz.prog 237 [E5 s,E5 p] (fun rs=>rs=[D5 (decide (s.take p.length=p))]):=by
 refine FnOk.intro Tryz.func237 G6 Z Z Z Z (zz 15 ?_);refine C3 Z Z Z Z (fun a=>by have b:=a;(try simp at b);rw[a];exact YF Z Z B1 B1) ?_;refine zz 5 ?_;simp only[and_pick,C31];refine zz 1 ?_;refine A8 (F7 Z Z Z) ?_
 congr 4
 congr 1
 apply propext;constructor
 ·intro h;exact h.2
 ·intro h;refine⟨?_,h⟩;have:=congrArg List.length h;rw[C41]at this;omega
theorem eE(s p:Str):FnOk Tryz.prog 158 [E5 s,E5 p] (fun a=>a=[D5 (decide (s.take p.length=p))]):=by
 refine FnOk.intro Tryz.func158 G6 Z Z Z Z (zz 8 ?_);refine D3 (pP s p) (zz 3 ?_);exact A8 (F7 rfl rfl rfl) rfl
def FL(s p:Str):List PV:=if s.take p.length=p then [E5 (s.drop p.length),D5 true] else [E5 s,D5 false]
theorem FM(s p:Str):FnOk Tryz.prog 234 [E5 s,E5 p] (fun rs=>rs=FL s p):=by
 refine FnOk.intro Tryz.func234 G6 Z Z Z Z (zz 10 ?_);refine D3 (pP s p) ?_;refine zc 2 (fun a=>?_) fun a=>?_
 ·have h:¬s.take p.length=p:=by intro h;rw[A3 h]at a;cases a
  refine zz 7 ?_;exact A8 (rs:=[E5 s,D5 false]) (S8 rfl rfl rfl rfl rfl) (by unfold FL;rw[A6 h])
 ·have h:s.take p.length=p:=by
   by_cases h:s.take p.length=p
   ·exact h
   ·rw[A4 h]at a;cases a
  have b:p.length<=s.length:=by
   have:=congrArg List.length h;rw[C41]at this;omega
  refine zz 11 ?_;exact A8 (rs:=[E5 (s.drop p.length),D5 true]) (S8 rfl rfl rfl rfl rfl) (by unfold FL;rw[A5 h])
theorem aU(s p:Str):FnOk Tryz.prog 155 [E5 s,E5 p] (fun b=>b=FL s p):=by
 have a:=FM s p;unfold FL at a ⊢;by_cases h:s.take p.length=p
 ·rw[A5 h]at a ⊢;refine FnOk.intro Tryz.func155 G6 Z Z Z Z (zz 9 ?_);refine D3 (a) (zz 6 ?_);exact A8 (S8 rfl rfl rfl rfl rfl) rfl
 ·rw[A6 h]at a ⊢;refine FnOk.intro Tryz.func155 G6 Z Z Z Z (zz 9 ?_);refine D3 (a) (zz 6 ?_);exact A8 (S8 rfl rfl rfl rfl rfl) rfl
theorem VH(s:Str):ended s=decide (1<=s.length/\s.drop (s.length-1)=[10]):=by
 by_cases h:ended s=true
 ·rw[h];obtain⟨a,rfl⟩:=A75.1 h
  symm;apply A3;simp
 ·have b:ended s=false:=by simpa using h
  rw[b];symm;apply A4;rintro⟨d,c⟩;refine h (A75.2 ⟨s.take (s.length-1),?_⟩);rw[<-c,C70]
theorem FN(s:Str)(hs:s.length<=1073741824):FnOk Tryz.prog 231 [E5 s,E5 [10]] (fun rs=>rs=[D5 (ended s)]):=by
 have c:([10]:Str).length=1:=rfl;refine FnOk.intro Tryz.func231 G6 Z Z Z Z (zz 17 ?_);refine C3 Z Z Z Z (fun b=>by have d:=b;(try simp at d);rw[b];exact lI Z Z B1) ?_;refine C3 Z Z Z Z (fun b=>by have d:=b;(try simp at d);rw[b];exact KD Z Z B1 B1) ?_;refine zz 5 ?_;simp only[and_pick];refine zz 1 ?_;refine A8 (F7 Z Z Z) ?_;rw[VH,c]
 congr 4
 congr 1
 rw[show ((s.length:Int)-((1:Nat):Int)).toNat=s.length-1 by omega];apply propext;constructor
 ·intro h;exact⟨by omega,h.2⟩
 ·intro h;exact⟨by omega,h.2⟩
def HN(s:Str):List PV:=if ended s=true then [E5 s.dropLast,D5 true] else [E5 s,D5 false]
theorem FO(s:Str)(hs:s.length<=1073741824):FnOk Tryz.prog 153 [E5 s,E5 [10]] (fun rs=>rs=HN s):=by
 have c:([10]:Str).length=1:=rfl;refine FnOk.intro Tryz.func153 G6 Z Z Z Z (zz 10 ?_);refine D3 (FN s hs) ?_;refine zc 2 (fun b=>?_) fun b=>?_
 ·have h:ended s=false:=by cases h:ended s<;>rw[h]at b<;>simp at b ⊢
  refine zz 7 ?_;exact A8 (rs:=[E5 s,D5 false]) (S8 rfl rfl rfl rfl rfl) (by unfold HN;rw[h];rfl)
 ·have h:ended s=true:=by cases h:ended s<;>rw[h]at b<;>simp at b ⊢
  have d:1<=s.length:=by obtain⟨a,rfl⟩:=A75.1 h;simp
  refine zz 14 ?_;refine A8 (rs:=[E5 s.dropLast,D5 true]) (S8 rfl rfl (by rw[c,show ((s.length:Int)-((1:Nat):Int)).toNat=s.length-1 by omega,<-List.dropLast_eq_take];rfl) rfl rfl) (by unfold HN;rw[A5 h])
theorem LP(s:Str)(hs:s.length<=1073741824):FnOk Tryz.prog 83 [E5 s,E5 [10]] (fun rs=>rs=HN s):=by
 have a:=FO s hs;unfold HN at a ⊢;by_cases h:ended s=true
 ·rw[A5 h]at a ⊢;refine FnOk.intro Tryz.func83 G6 Z Z Z Z (zz 9 ?_);refine D3 (a) (zz 6 ?_);exact A8 (S8 rfl rfl rfl rfl rfl) rfl
 ·rw[A6 h]at a ⊢;refine FnOk.intro Tryz.func83 G6 Z Z Z Z (zz 9 ?_);refine D3 (a) (zz 6 ?_);exact A8 (S8 rfl rfl rfl rfl rfl) rfl
def vJ(s:Str):List PV:=match cE s with
 | none=>[Z7 [],D5 false]
 | some l=>[Z7 l,D5 true]
theorem VI(s:Str)(hs:s.length<=536870912):FnOk Tryz.prog 32 [E5 s] (fun rs=>rs=vJ s):=by
 refine FnOk.intro Tryz.func32 G6 Z Z Z Z ?_;refine zc 11 (fun a=>?_) fun a=>?_
 ·have h:s=[]:=A0 a;refine zz 2 ?_;refine A7 (K7 _ 1 L2) Z (zz 3 ?_);exact A8 (rs:=[Z7 [],D5 true]) (S8 rfl rfl rfl rfl rfl) (by unfold vJ cE;rw[A5 h])
 have h:s≠[]:=A1 a;have b:=LP s B1;unfold HN at b;by_cases c:ended s=true
 ·rw[A5 c]at b;have d:s.dropLast.length<=s.length:=by rw[List.length_dropLast];omega
  refine zz 4 ?_;refine D3 (b) ?_;refine zc 12 (fun a=>?_) fun a=>?_
  ·cases a
  refine zz 4 ?_;refine D3 (B31 s.dropLast B1) (zz 4 ?_);exact A8 (rs:=[Z7 (m8 s.dropLast),D5 true]) (S8 rfl rfl rfl rfl rfl) (by unfold vJ;rw[xF h,A5 c])
 ·rw[A6 c]at b;refine zz 4 ?_;refine D3 (b) ?_;refine zc 12 (fun a=>?_) fun a=>?_
  ·refine zz 2 ?_;refine A7 (K7 _ 1 L2) Z (zz 3 ?_);exact A8 (rs:=[Z7 [],D5 false]) (S8 rfl rfl rfl rfl rfl) (by unfold vJ;rw[xF h,A6 c])
  ·cases a
theorem check12_good{p:Patch}(b:¬tQ p≠0):vW p.Hunks=true:=by
 by_cases a:vW p.Hunks=true
 ·exact a
 ·exfalso;apply b;unfold tQ;split
  ·decide
  ·rw[A5 (by simpa using a)];decide
theorem ke_of(c k:UInt8):decide ((c.toNat:Int)=(k.toNat:Int))=decide (c=k):=by
 rw[decide_eq_decide];constructor
 ·intro h;exact UInt8.toNat_inj.1 B1
 ·rintro rfl;rfl
theorem ke45(c:UInt8):decide ((c.toNat:Int)=45)=decide (c=45):=ke_of c 45
theorem ke43(c:UInt8):decide ((c.toNat:Int)=43)=decide (c=43):=ke_of c 43
theorem ke32(c:UInt8):decide ((c.toNat:Int)=32)=decide (c=32):=ke_of c 32
end Go.Proofs.YtgkjogphmmoakaaGreatDoor
