
/- Walks of the program's functions. -/
import Derived.Test.YtmbpmaofnddkoaaGreatDoorFf
set_option linter.all false
namespace Go.Proofs.YtmbpmaofnddkoaaGreatDoor
open Go Go.AL
open Go.Proofs.Tryz (prog)
set_option maxRecDepth 100000
set_option maxHeartbeats 4000000
abbrev jA(A:AL.Auto)(s:Str):Bool:=(yJ A s 0).2
theorem KT(A:AL.Auto)(hA:AG A)(a b:Str)(ha:P5 a=0)(hb:P5 b=0):FnOk prog 37 [mP A,G5 a,G5 b] (fun rs=>rs=[aI (vK (jA A) a b),E2 0]):=by
 have w:∀{s:Str},P5 s=0->s.length<=1048576/\(D5 s).length<=4096:=fun {s} h=>by
  unfold P5 at h;split at h
  ·cases h
  ·omega
 obtain⟨al,E⟩:=w ha;obtain⟨am,F⟩:=w hb;have z:=jV a B3;have B:=jV b B3;rw[show P6 a=(D5 a,0) by unfold P6;rw[A6 B3]]at z;rw[show P6 b=(D5 b,0) by unfold P6;rw[A6 B3]]at B;obtain⟨x,hx⟩:∃x,x=D5 a:=⟨_,rfl⟩
 obtain⟨y,hy⟩:∃y,y=D5 b:=⟨_,rfl⟩
 have ai:∀s∈x,s.length<=1048576:=fun s q=>by rw[hx]at q;have:=QM _ _ q;omega
 have aj:∀s∈y,s.length<=1048576:=fun s q=>by rw[hy]at q;have:=QM _ _ q;omega
 have ag:vK (jA A) a b=r5 (jA A) x y (yN x y):=by unfold vK;rw[hx,hy]
 rw[ag];rw[<-hx]at E z;rw[<-hy]at F B;have ac:=tV [x,y] eR (by simp only[B69,C01,B25,List.length_nil];omega);have R:=BU (F4 (D6 [x,y]) x) (F4 (D6 [x,y]) y) (by rw[gL];exact E) (by rw[gL];exact F);obtain⟨L,hL⟩:∃L,L=yN x y:=⟨_,rfl⟩
 have ah:jD (F4 (D6 [x,y]) x) (F4 (D6 [x,y]) y)=L:=hL.symm;rw[ah]at R;obtain⟨S,D⟩:=A32 x y;rw[<-hL]at S D ⊢;have ao:([x,y].map (F4 (D6 [x,y])))[(0:Int).toNat]?=some (F4 (D6 [x,y]) x):=rfl;have ap:([x,y].map (F4 (D6 [x,y])))[(1:Int).toNat]?=some (F4 (D6 [x,y]) y):=rfl;refine FnOk.intro Tryz.func37 F5 A0 A0 A0 A0 (U7 ?_);refine F0 (z) ?_;refine zc 12 (fun d=>?_) fun d=>?_
 ·cases d
 refine R6 ?_;refine F0 (B) ?_;refine zc 12 (fun d=>?_) fun d=>?_
 ·cases d
 refine I0 ?_;refine A9 (B8 (c:=strsC) (ys:=[x,y]) (C5 A0 A0 A0 A0 (C5 A0 A0 A0 A0 E5)) A0 A0 A0) A0 (F0 (ac) (R9 ?_));refine D2 (I2 (R) A0 A0) A0 A0 (X0 ?_);refine B6 (U2 14 _ K6 A0) A0 (U7 ?_);refine C1 (X:=Nat) (fun i=>([(3,.s (.one (.eref Unit 2 (CC A) () 0))),(8,B9 Str 1 K6 x),(10,B9 Str 1 K6 y),(14,.s (.one (.buf 14 Str 1 K6 (r5 (jA A) x y (L.take i))))),(51,.s (pChanges L).s1),(52,B1 L.length),(53,B1 i)],[(14,.spare (r5 (jA A) x y (L.take i)).length 1 9)])) (fun i=>i<=L.length) (fun i=>L.length-i) 0 (B37 _) (C6) ?_;intro i hi;have J:=yP (jA A) x y (L.take i);rw[B42]at J;have K:(r5 (jA A) x y (L.take i)).length<=4097*8192:=B72 J (Nat.mul_le_mul B3 B3);dsimp only at hi ⊢;refine zc 5 (fun d=>?_) fun d=>?_;rotate_left
 ·have ad:i=L.length:=by have:=A2 d;omega
  rw[ad,B38];refine X0 ?_;exact A8 (rs:=[aI (r5 (jA A) x y L),E2 0]) nP rfl
 have af:i<L.length:=by have:=A1 d;omega
 obtain⟨c,hc⟩:∃c,c=L[i]:=⟨_,rfl⟩
 have P:L[i]?=some c:=by rw[hc];simp[af]
 obtain⟨q1,q2,q3,q4,q5,q6⟩:=D c (B43 P);obtain⟨W,hW⟩:∃W,W=r5 (jA A) x y (L.take i):=⟨_,rfl⟩
 have O:r5 (jA A) x y (L.take (i+1))=W++jM (jA A) (aU x y c):=by
  rw[UI P,hW];unfold r5;rw[List.flatMap_append,List.flatMap_singleton]
 rw[<-hW]at K ⊢;have C:=yO x y c
 have H:=KG [(x.drop c.Old.toNat).take ((c.Old+c.OldLen).toNat-c.Old.toNat),(y.drop c.New.toNat).take ((c.New+c.NewLen).toNat-c.New.toNat)] eR (by
  simp only[B69,C01,B71]
  exact B72 C B3)
 have Z:[(x.drop c.Old.toNat).take ((c.Old+c.OldLen).toNat-c.Old.toNat),(y.drop c.New.toNat).take ((c.New+c.NewLen).toNat-c.New.toNat)].flatten=aU x y c:=by
  simp only[B69,C01,B71];rfl
 rw[Z]at H;refine J5 ?_;refine B6 (E6 16 A0) A0 (o9 ?_);refine D2 (X6 A0 A0 WY) A0 A0 (D2 (cG A0 (.pure _ _ _ _) A0 A0 WY WY WY) A0 A0 (J5 ?_));refine D2 (X6 A0 A0 WY) A0 A0 (D2 (cG A0 (.pure _ _ _ _) A0 A0 WY WY WY) A0 A0 (D2 (B8 (c:=strsC) (ys:=[(x.drop c.Old.toNat).take ((c.Old+c.OldLen).toNat-c.Old.toNat),(y.drop c.New.toNat).take ((c.New+c.NewLen).toNat-c.New.toNat)]) (C5 A0 A0 A0 A0 (C5 A0 A0 A0 A0 E5)) A0 A0 A0) A0 A0 (D2 (I2 (H) A0 A0) A0 A0 (R6 ?_))));obtain⟨M,hM⟩:∃M,M=aU x y c:=⟨_,rfl⟩
 have T:∀s∈M,s.length<=1048576:=fun s q=>by
  rw[hM]at q;exact (RJ q).elim (ai s) (aj s)
 rw[<-hM]at C O ⊢;refine C1 (X:=Nat) (fun j=>([(3,.s (.one (.eref Unit 2 (CC A) () 0))),(8,B9 Str 1 K6 x),(10,B9 Str 1 K6 y),(14,.s (.one (.buf 14 Str 1 K6 (W++jM (jA A) (M.take j))))),(51,.s (pChanges L).s1),(52,B1 L.length),(53,B1 i),(76,B9 Str 1 K6 M),(77,B1 M.length),(78,B1 j)],[(14,.spare (W++jM (jA A) (M.take j)).length 1 9)])) (fun j=>j<=M.length) (fun j=>M.length-j) 0 (B37 _) ?_ ?_
 ·dsimp only;rw[B68,show jM (jA A) []=[] from rfl,B71];exact C6
 intro j hj;have ab:=RK (jA A) (M.take j);rw[B42]at ab;dsimp only at hj ⊢;refine zc 5 (fun d=>?_) fun d=>?_;rotate_left
 ·have ae:j=M.length:=by have:=A2 d;omega
  rw[ae,B38,<-O];refine I0 ?_;exact⟨i+1,by omega,by omega,C6⟩
 have I:j<M.length:=by have:=A1 d;omega
 obtain⟨s,q⟩:∃s,s=M[j]:=⟨_,rfl⟩
 have Q:M[j]?=some s:=by rw[q];simp[I]
 have an:=T s (B43 Q);have G:=NM s B3;have Y:(s8 s).length<=16777216:=by unfold s8;split<;>(try rw[List.length_dropLast])<;>omega
 obtain⟨V,U⟩:∃V,V=W++jM (jA A) (M.take j):=⟨_,rfl⟩
 have ak:V.length<=4097*8192+8192:=by rw[U,B25];omega
 have v:W++jM (jA A) (M.take (j+1))=V++(if jA A (s8 s)=true then [s8 s] else []):=by
  rw[U,UI Q];unfold jM;rw[B65,C04,B51]
  congr 2
  simp only[B50,C08,B99,List.filter_nil]
 rw[<-U];refine o9 ?_;refine D2 (I1 A0 A0) A0 A0 (F8 ?_);refine D2 (I2 (G) A0 A0) A0 A0 (D2 (I2 (anyG_ok A (s8 s) hA Y) A0 A0) A0 A0 ?_);refine zc 10 (fun d=>?_) fun d=>?_
 ·rw[A5 d]at v;skip;refine H8 ?_;refine F0 (G) (A9 (B8 (c:=K6) (ys:=[s8 s]) (C5 A0 A0 A0 A0 E5) A0 A0 A0) A0 (J5 ?_));refine⟨j+1,by omega,by omega,?_⟩
  (try dsimp only)
  rw[v];exact C6
 ·rw[A6 (fun h=>by rw[show (yJ A (s8 s) 0).2=true from h]at d;cases d),B71]at v;refine I0 ?_;refine⟨j+1,by omega,by omega,?_⟩
  (try dsimp only)
  rw[v];exact C6
theorem PF(A:AL.Auto)(c:AG A)(a b:Str)(ha:P5 a=0)(hb:P5 b=0):AL.Met prog 36 [WR (a,b),.one (.eref Unit 2 (CC A) () 0)] [] [] [] (fun rs ob'=>rs=[qY (decide (0<(vK (jA A) a b).length))]/\ob'=[]):=by
 refine AL.Met.intro Tryz.func36 F5 A0 A0 A0 (H2 ?_);refine B6 (V5 2 A0 A0 A0) A0 (U7 ?_);refine F0 (KT A c a b ha hb) (zz 14 ?_);refine D7 Y5 bZ (ObIn.spec (ob':=[]) trivial) ⟨?_,rfl⟩
 first
  | rfl
  | (congr 1;simp)
structure GF (B:Nat) (l:List File):Prop where
 len:l.length<=4
 all:∀f∈l,f.Path.length<=3/\f.Blob.length<=B
theorem GF.few{B:Nat}{l:List File}(h:GF B l)(b:B<=16777216):FewF l :=
 ⟨by have:=h.len;omega,fun f a=>by have:=(h.all f a).1;omega,fun f a=>by have:=(h.all f a).2;omega⟩
theorem GF.mono{B B':Nat}{l:List File}(h:GF B l)(b:B<=B'):GF B' l:=⟨h.len,fun f a=>⟨(h.all f a).1,by have:=(h.all f a).2;omega⟩⟩
theorem name4(i:Nat)(h:i<4):∃b:Str,names4[((i:Nat):Int).toNat]?=some b/\b.length<=3:=by
 rw[B26]
 match i,h with
 | 0,_=>exact⟨_,rfl,by decide⟩
 | 1,_=>exact⟨_,rfl,by decide⟩
 | 2,_=>exact⟨_,rfl,by decide⟩
 | 3,_=>exact⟨_,rfl,by decide⟩
theorem UK(a:Str)(b:List Int)(k:Int):(iT a b k).length<=5*a.length:=by
 have c:=kY b k (D5 a) 0 [];have d:=fS a;rw[d8]at c;unfold iT;simp only[List.length_nil]at c;omega
theorem ZU(k:Int):(y8 k).count 10=0:=by
 have h:∀s∈lineTab,s.count 10=0:=by decide
 have d:=Y6 k (n:=10) B3;have b:(X8 k 10).toNat<lineTab.length:=by show _<10;omega
 unfold y8;rw[B30,B23 b];exact h _ (B32 b)
theorem lH(a:List Int)(k:Int):∀(l:List Str) (i:Nat) (s:Str),(s6 a k i s l).count 10<=s.count 10+l.flatten.count 10+l.length
 | [],i,s=>by simp[s6]
 | x::r,i,s=>by
  have e:=lH a k r (i+1) s;have f:=lH a k r (i+1) (s++y8 (u7 a (k+40+(i:Int)))++[10]++x);have g:=lH a k r (i+1) (s++x);have b:=ZU (u7 a (k+40+(i:Int)));have d:List.count (10:UInt8) [10]=1:=by decide
  simp only[List.count_append,b,d,B69,B31]at *;unfold s6;split
  ·omega
  split
  ·omega
  ·omega
theorem UL(a:Str)(b:List Int)(k:Int):(iT a b k).count 10<=2*a.count 10+1:=by
 have d:=lH b k (D5 a) 0 [];have e:=jF a;rw[d8]at d;unfold iT;simp only[List.count_nil]at d;split at e<;>omega
theorem CG(k:Int):NoDig (y8 k):=by
 have h:∀s∈lineTab,∀c∈s,c.toNat<48\/57<c.toNat:=by decide
 have d:=Y6 k (n:=10) B3;have b:(X8 k 10).toNat<lineTab.length:=by show _<10;omega
 unfold y8;rw[B30,B23 b];exact h _ (B32 b)
theorem lf_dig:NoDig [10]:=fun c a=>by rw[B33.1 a];decide
theorem lI(b:List Int)(k:Int):∀(l:List Str) (i:Nat) (s:Str),NoDig s->(∀x∈l,NoDig x)->NoDig (s6 b k i s l)
 | [],_,_,hs,_=>hs
 | x::r,i,s,hs,hl=>by
  have d:=hl x eR;have c:∀y∈r,NoDig y:=fun y e=>hl y (by simp[e]);unfold s6;split
  ·exact lI b k r _ _ hs c
  split
  ·exact lI b k r _ _ (((hs.app (CG _)).app lf_dig).app d) c
  ·exact lI b k r _ _ (hs.app d) c
theorem UM{a:Str}(h:NoDig a)(b:List Int)(k:Int):NoDig (iT a b k) :=
 lI b k _ 0 [] (fun _ h=>by cases h) fun x e=>h.sub fun c d=>by rw[<-d8 a];exact List.mem_flatten.2 ⟨x,e,d⟩
theorem jB(d:List Int)(k b:Int):∀m,NoDig (j4 d k b m)
 | 0=>fun c e=>by simp[j4]at e
 | m+1=>by rw[fN];exact ((jB d k b m).app (CG _)).app lf_dig
theorem UN(d:List Int)(k n a:Int):NoDig (kX d k n a):=by
 unfold kX;simp only;split
 ·exact (jB d k a _).sub fun c e=>B90 e
 ·exact jB d k a _
theorem KU{α:Type}{l:List α}{i:Nat}{x:α}(h:l[i]?=some x):l.take (i+1)=l.take i++[x]:=by rw[B48,h];rfl
theorem HP(j:List Int)(k d:Int)(I:0<=k/\k<=1000000)(B:0<=d/\d<=16):FnOk prog 11 [L5 j,E2 k,E2 d] (fun rs=>∃l,rs=[b9 l]/\GF 64 l/\GN 64 l):=by
 refine FnOk.intro Tryz.func11 F5 A0 A0 A0 A0 (N0 ?_);refine A9 (B8 (c:=K6) (ys:=names4) (C5 A0 A0 A0 A0 (C5 A0 A0 A0 A0 (C5 A0 A0 A0 A0 (C5 A0 A0 A0 A0 E5)))) A0 A0 A0) A0 (R6 ?_);refine B6 (U2 8 _ Z7 A0) A0 (J5 ?_);refine C1 (X:=Nat×List File) (fun x=>([(0,B9 Int 1 E0 j),(1,B1 k),(2,B1 d),(7,B9 Str 1 K6 names4),(8,.s (.one (.buf 8 File 2 Z7 x.2))),(9,B1 x.1)],[(8,.spare x.2.length 2 48)])) (fun x=>x.1<=4/\x.2.length<=x.1/\(∀f∈x.2,f.Path.length<=3/\f.Blob.length<=64)/\(x.2.map (·.Path)).Sublist (names4.take x.1)/\∀f∈x.2,NoDig f.Blob) (fun x=>4-x.1) (0,[]) ⟨B37 _,B29 _,(fun _ h=>by cases h),List.Sublist.refl [],(fun _ h=>by cases h)⟩ (C6) ?_;rintro⟨i,w⟩ ⟨H,E,g,m,v⟩;dsimp only at H E g m v ⊢;refine zc 6 (fun A=>?_) fun A=>?_;rotate_left
 ·refine J5 ?_;exact A8 (rs:=[b9 w]) M3 ⟨w,rfl,⟨by omega,g⟩,m.trans (List.take_sublist _ _),fun f q=>B72 List.count_le_length (g f q).2,v⟩
 have y:i<4:=by have B:=A1 A;(try dsimp only at B);omega
 obtain⟨F,D,C⟩:=name4 i y;have z:names4.take (i+1)=names4.take i++[F]:=KU (by rw[<-D,B26]);refine U7 ?_;refine F0 (gX j (k+(i:Int)) B3 B3) ?_;refine zc 3 (fun A=>?_) fun A=>?_
 ·have G:=SL j (k+10+20*(i:Int)) d 4 B.1;skip;refine R9 ?_;refine D2 (mH A0 A0 B3) A0 A0 (H2 ?_);refine D2 (I2 (blob_ok j (k+10+20*(i:Int)) d 4 B3 B3 B3) A0 A0) A0 A0 (D2 (sZ A0) A0 A0 (D2 (B8 (c:=Z7) (ys:=[⟨F,kX j (k+10+20*(i:Int)) d 4⟩]) (C5 A0 A0 A0 A0 E5) A0 A0 A0) A0 A0 (JB (R7 A0 A0 A0 (.pure _ _ _ _) NZ A0) A0 A0 (J5 ?_))));refine⟨(i+1,w++[⟨F,kX j (k+10+20*(i:Int)) d 4⟩]),⟨y,by rw[B25,B41];omega,fun f q=>?_,by dsimp only;rw[z,B65];exact m.append (List.Sublist.refl _),fun f q=>?_⟩,by dsimp only;omega,(C6)⟩
  ·rcases B36.1 q with q | q
   ·exact g f q
   ·rw[B33.1 q];exact⟨C,by dsimp only;omega⟩
  ·rcases B36.1 q with q | q
   ·exact v f q
   ·rw[B33.1 q];exact UN _ _ _ _
 ·refine N0 ?_;exact⟨(i+1,w),⟨y,by dsimp only;omega,g,by dsimp only;rw[z];exact m.trans (List.sublist_append_left _ _),v⟩,by dsimp only;omega,(C6)⟩
theorem UO(l:List File)(g:List Int)(k j:Int)(B L:Nat)(O:GF B l)(J:GN L l)(hL:32<=L)(hB:B<=3000000)(Q:0<=k/\k<=1000000)(I:0<=j/\j<=16):FnOk prog 12 [b9 l,L5 g,E2 k,E2 j] (fun rs=>∃E,rs=[b9 E]/\GF (5*B+64) E/\GN (2*L+1) E):=by
 have V:=O.len;refine FnOk.intro Tryz.func12 F5 A0 A0 A0 A0 (N0 ?_);refine B6 (U2 9 _ Z7 A0) A0 (N0 ?_);refine F0 (gX g (k+3) B3 B3) (F0 (kV (u7 g (k+3)) 4 B3 B3) (H2 ?_));obtain⟨m,W⟩:∃m,m=X8 (u7 g (k+3)) 4:=⟨_,rfl⟩
 rw[<-W];refine N0 ?_;refine C1 (X:=Nat×List File) (fun x=>([(0,B9 File 2 Z7 l),(1,B9 Int 1 E0 g),(2,B1 k),(3,B1 j),(9,.s (.one (.buf 9 File 2 Z7 x.2))),(10,B1 m),(11,B1 x.1)],[(9,.spare x.2.length 2 48)])) (fun x=>x.1<=l.length/\x.2.length<=x.1/\(∀f∈x.2,f.Path.length<=3/\f.Blob.length<=5*B+64)/\(x.2.map (·.Path)).Sublist ((l.take x.1).map (·.Path))/\(∀f∈x.2,f.Blob.count 10<=2*L+1)/\∀f∈x.2,NoDig f.Blob) (fun x=>l.length-x.1) (0,[]) ⟨B37 _,B29 _,(fun _ h=>by cases h),List.Sublist.refl [],(fun _ h=>by cases h),(fun _ h=>by cases h)⟩ (C6) ?_;rintro⟨i,A⟩ ⟨U,N,q,v,y,z⟩;dsimp only at U N q v y z ⊢;refine zc 8 (fun C=>?_) fun C=>?_;rotate_left
 ·refine zc 8 (fun C=>?_) fun C=>?_
  ·refine I0 ?_;refine y5 (HP g k j Q I) A0 A0 A0 ?_;rintro _ ⟨E,rfl,K,M⟩;refine H2 ?_;refine F8 ?_;exact A8 (rs:=[b9 E]) M3 ⟨E,rfl,K.mono B3,M.mono B3⟩
  ·refine J5 ?_;exact A8 (rs:=[b9 A]) M3 ⟨A,rfl,⟨by omega,q⟩,(v.trans ((List.take_sublist _ _).map _)).trans J.sub,y,z⟩
 have w:i<l.length:=by have I:=A1 C;(try dsimp only at I);omega
 obtain⟨f,H⟩:∃f,f=l[i]:=⟨_,rfl⟩
 have hv:l[i]?=some f:=by rw[H];simp[w]
 obtain⟨G,R⟩:=O.all f (by rw[H];exact B32 w);have Z:=UK f.Blob g (k+7);have Y:=UL f.Blob g (k+7);have T:=J.cnt f (by rw[H];exact B32 w);have F:=J.dig f (by rw[H];exact B32 w);have D:(l.take (i+1)).map (·.Path)=(l.take i).map (·.Path)++[f.Path]:=by rw[KU hv,B65];rfl
 refine U7 ?_;refine B6 (E6 12 A0) A0 ?_;refine zc 9 (fun C=>?_) fun C=>?_
 ·refine J5 ?_;refine F0 (near_ok f.Blob g (k+7) B3 B3) (X0 ?_);refine F0 (gX g (k+5) B3 B3) ?_;refine zc 3 (fun C=>?_) fun C=>?_
  ·refine N0 ?_;exact⟨(i+1,A),⟨w,by dsimp only;omega,q,by dsimp only;rw[D];exact v.trans (List.sublist_append_left _ _),y,z⟩,by dsimp only;omega,(C6)⟩
  ·refine R6 ?_;refine A9 (B8 (c:=Z7) (ys:=[⟨f.Path,iT f.Blob g (k+7)⟩]) (C5 A0 A0 A0 A0 E5) A0 A0 A0) A0 (X0 ?_);refine⟨(i+1,A++[⟨f.Path,iT f.Blob g (k+7)⟩]),⟨w,by rw[B25,B41];omega,fun x d=>?_,by dsimp only;rw[D,B65];exact v.append (List.Sublist.refl _),fun x d=>?_,fun x d=>?_⟩,by dsimp only;omega,(C6)⟩
   ·rcases B36.1 d with d | d
    ·exact q x d
    ·rw[B33.1 d];exact⟨G,by dsimp only;omega⟩
   ·rcases B36.1 d with d | d
    ·exact y x d
    ·rw[B33.1 d];dsimp only;omega
   ·rcases B36.1 d with d | d
    ·exact z x d
    ·rw[B33.1 d];exact UM F g (k+7)
 ·refine R6 ?_;refine A9 (B8 (c:=Z7) (ys:=[f]) (C5 A0 A0 A0 A0 E5) A0 A0 A0) A0 (X0 ?_);refine⟨(i+1,A++[f]),⟨w,by rw[B25,B41];omega,fun x d=>?_,by dsimp only;rw[D,B65];exact v.append (List.Sublist.refl _),fun x d=>?_,fun x d=>?_⟩,by dsimp only;omega,(C6)⟩
  ·rcases B36.1 d with d | d
   ·exact q x d
   ·rw[B33.1 d];exact⟨G,by omega⟩
  ·rcases B36.1 d with d | d
   ·exact y x d
   ·rw[B33.1 d];omega
  ·rcases B36.1 d with d | d
   ·exact z x d
   ·rw[B33.1 d];exact F
structure GG (B:Nat) (g:Graph):Prop where
 len:g.length<=16
 pars:∀c∈g,c.Parents.length<=3/\∀p∈c.Parents,0<=p/\p<(g.length:Int)
 files:∀c∈g,GF B c.Files
theorem GG.few{B:Nat}{g:Graph}(h:GG B g)(b:B<=16777216):FewT g :=
 ⟨⟨by have:=h.len;omega,fun c a=>by have:=(h.pars c a).1;omega⟩,fun c a=>(h.files c a).few b⟩
theorem GG.short{B:Nat}{g:Graph}(h:GG B g):Short g:=fun c=>by
 unfold J0;by_cases a:c<g.length
 ·rw[B23 a];have:=(h.files _ (B32 a)).len;show g[c].Files.length<=6;omega
 ·rw[B58 B3];simp
structure GU (L:Nat) (g:Graph):Prop where
 up:∀c p:Nat,(p:Int)∈D8 g c->p<c
 nice:∀c∈g,c.Parents.Nodup/\0<=c.Date/\c.Date<=5
 tree:∀c∈g,GN L c.Files
theorem GU.valid{B L:Nat}{g:Graph}(h:GG B g)(p:B<=1048576)(d:L<=2111)(k:OneWay g)(i:∀c∈g,c.Parents.Nodup/\0<=c.Date/\c.Date<=5)(j:∀c∈g,GN L c.Files):GV g where
 len:=h.len
 pars:=fun c b=>⟨(h.pars c b).1,(h.pars c b).2,i c b⟩
 way:=k
 files:=fun c b=>⟨(j c b).mono d,fun f e=>by have:=((h.files c b).all f e).2;omega⟩
theorem UP{g:Graph}{k:Nat}{x:Commit}(j:Nat){p:Int}(h:p∈D8 (g.set k x) j):(j=k/\p∈x.Parents)\/p∈D8 g j:=by
 unfold D8 at h ⊢;rw[List.getElem?_set]at h;split at h
 ·rename_i e;split at h
  ·exact .inl ⟨e.symm,h⟩
  ·cases h
 ·exact .inr h
theorem UQ(n:Int){l:List Int}(h:l.Nodup):(l.map fun q=>n-1-q).Nodup:=by
 rw[List.nodup_iff_pairwise_ne,List.pairwise_map];exact h.imp fun {a b} c e=>c B3
theorem UR(g:Graph)(T:List Int)(B L:Nat)(S:GG B g)(P:GU L g)(hB:B<=1048576)(hL:L<=2111):FnOk prog 13 [N2 g,L5 T] (fun rs=>∃V,rs=[N2 V]/\GG B V/\GV V):=by
 have af:=S.len;refine FnOk.intro Tryz.func13 F5 A0 A0 A0 A0 (X0 ?_);refine F0 (gX T 3 B3 B3) ?_;refine zc 3 (fun J=>?_) fun J=>?_
 ·refine N0 ?_;exact A8 (rs:=[N2 g]) M3 ⟨g,rfl,S,GU.valid S hB hL (.inl P.up) P.nice P.tree⟩
 refine R9 ?_;refine B6 (eW 760 Commit H0 ⟨[],0,[]⟩ A0 A0 B3 B3 (fun _=>b1w) b3x) A0 (H2 ?_);rw[B26];refine N0 ?_
 refine C1 (X:=Nat×List Commit) (fun x=>([(0,B9 Commit 3 H0 g),(5,B1 g.length),(6,.s (.one (.mut 760))),(7,B1 x.1)],[(760,.arr Commit 3 H0 x.2)])) (fun x=>x.1<=g.length/\x.2.length=g.length/\(∀y∈x.2,y.Parents.length<=3/\∀p∈y.Parents,0<=p/\p<(g.length:Int))/\(∀y∈x.2,GF B y.Files)/\(∀y∈x.2,(y.Parents.Nodup/\0<=y.Date/\y.Date<=5)/\GN L y.Files)/\∀j p:Nat,(p:Int)∈D8 x.2 j->j<p) (fun x=>g.length-x.1) (0,List.replicate g.length ⟨[],0,[]⟩) ⟨B37 _,B86,fun y w=>by rw[(List.mem_replicate.1 w).2];exact⟨by simp,fun p hp=>by cases hp⟩,fun y w=>by rw[(List.mem_replicate.1 w).2];exact⟨by simp,fun f R=>by cases R⟩,fun y w=>by rw[(List.mem_replicate.1 w).2];exact⟨⟨List.nodup_nil,by decide,by decide⟩,List.nil_sublist _,(fun f R=>by cases R),fun f R=>by cases R⟩,fun j p h=>by
  unfold D8 at h;rw[List.getElem?_replicate]at h
  split at h<;>cases h⟩ (C6) ?_
 rintro⟨c,o⟩ ⟨hc,F,H,E,G,M⟩;dsimp only at hc F H E G M ⊢;refine zc 7 (fun J=>?_) fun J=>?_;rotate_left
 ·refine H2 ?_;refine C3 (Sees.freeze (k:=760) A0) (I0 ?_);exact A8 (rs:=[N2 o]) M3 ⟨o,rfl,⟨by omega,by rw[F];exact H,E⟩,GU.valid (B:=B) ⟨by omega,by rw[F];exact H,E⟩ hB hL (.inr M) (fun y w=>(G y w).1) fun y w=>(G y w).2⟩
 have D:c<g.length:=by have z:=A1 J;(try dsimp only at z);omega
 obtain⟨d,K⟩:∃d,d=g[c]:=⟨_,rfl⟩
 have hv:g[c]?=some d:=by rw[K];simp[D]
 have U:d∈g:=by rw[K];exact B32 D
 obtain⟨ag,hpr⟩:=S.pars d U;have W:=S.files d U;have Q:=P.nice d U;have Y:=P.tree d U;have Z:∀q∈d.Parents,q<(c:Int):=fun q C=>by
  have z:=P.up c q.toNat (by rw[bQ D,<-K,Int.toNat_of_nonneg (hpr q C).1];exact C)
  have:=(hpr q C).1;omega
 refine U7 ?_;refine B6 (E6 8 A0) A0 (U7 ?_);refine C3 (A98 753 Int 1 E0 3 (kb:=8) (o:=0) A0 A0 A0) (R6 ?_);refine C1 (X:=Nat×List Int) (fun x=>([(0,B9 Commit 3 H0 g),(5,B1 g.length),(6,.s (.one (.mut 760))),(7,B1 c),(8,.s (.one (.ref 8 0))),(9,B1 x.1)],[(8,.box [.buf 753 Int 1 E0 x.2,.p (.v (.int .i64 d.Date)),.p (.list File 2 Z7 d.Files)]),(753,.spare x.2.length 1 3),(760,.arr Commit 3 H0 o)])) (fun x=>x.1<=d.Parents.length/\x.2=(d.Parents.take x.1).map fun q=>(g.length:Int)-1-q) (fun x=>d.Parents.length-x.1) (0,[]) ⟨B37 _,rfl⟩ (C6) ?_;rintro⟨p,ps⟩ ⟨hp,I⟩;dsimp only at hp I ⊢;have ah:ps.length=p:=by rw[I,B75,B42];omega
 refine zc 12 (fun J=>?_) fun J=>?_
 ·have A:p<d.Parents.length:=by have z:=A1 J;(try dsimp only at z);omega
  obtain⟨q,C⟩:∃q,q=d.Parents[p]:=⟨_,rfl⟩
  have ad:d.Parents[p]?=some q:=by rw[C];simp[A]
  have ai:=hpr q (by rw[C];exact B32 A);refine J5 ?_;refine D2 (S7 A0 A0 B3) A0 A0 (X0 ?_);refine D2 (S7 A0 A0 B3) A0 A0 (D2 (B8 (c:=E0) (ys:=[(g.length:Int)-1-q]) (C5 A0 A0 A0 A0 E5) A0 A0 A0) A0 A0 (JB (R7 A0 A0 A0 (.pure _ _ _ _) NZ A0) A0 A0 (X0 ?_)));refine⟨(p+1,ps++[(g.length:Int)-1-q]),⟨A,by dsimp only;rw[KU ad,B65,<-I];rfl⟩,by dsimp only;omega,(C6)⟩
 have ae:¬(p:Int)<d.Parents.length:=A2 J;have O:ps=d.Parents.map fun q=>(g.length:Int)-1-q:=by rw[I,B77 B3]
 have ab:∀x∈ps,0<=x/\x<(g.length:Int):=fun x hx=>by
  rw[O]at hx;obtain⟨q,C,rfl⟩:=B62.1 hx;have:=hpr q C;omega
 have hi:0<=(g.length:Int)-1-c/\(g.length:Int)-1-c<o.length:=by omega
 have ac:o[((g.length:Int)-1-c).toNat]?=some o[((g.length:Int)-1-c).toNat]:=B23 B3;refine U7 ?_;refine V2 (tA (y:=⟨ps,d.Date,d.Files⟩) TySz.out A0 A0 ac A0 A0 A0 A0 (fun _ _ us h=>by first | exact m8 h | (match us,h with | [_,_,_],h=>exact⟨h.1.2,h.2.1,h.2.2.1,trivial⟩)) (by intro j z h2;rcases j with _ | _ | _ | j<;>first | rfl | omega)) ?_;refine N0 ?_;refine⟨(c+1,o.set ((g.length:Int)-1-c).toNat ⟨ps,d.Date,d.Files⟩),⟨D,by dsimp only;rw[B76];exact F,fun y w=>?_,fun y w=>?_,fun y w=>?_,fun j p hj=>?_⟩,by dsimp only;omega,(C6)⟩
 ·rcases List.mem_or_eq_of_mem_set w with w | rfl
  ·exact H y w
  ·exact⟨by dsimp only;omega,ab⟩
 ·rcases List.mem_or_eq_of_mem_set w with w | rfl
  ·exact E y w
  ·exact W
 ·rcases List.mem_or_eq_of_mem_set w with w | rfl
  ·exact G y w
  ·exact⟨⟨by rw[O];exact UQ _ Q.1,Q.2⟩,Y⟩
 ·rcases UP j hj with ⟨e,z⟩ | z
  ·dsimp only at z;rw[O]at z;obtain⟨q,C,e2⟩:=B62.1 z;have:=Z q C;omega
  ·exact M j p z
def CH:Nat->Nat
 | 0=>0
 | c+1=>5*CH c+64
def yV:Nat->Nat
 | 0=>32
 | c+1=>2*yV c+1
theorem bndG_le(c:Nat)(h:c<=6):(32<=yV c/\CH c<=250000)/\yV c<=2111:=by
 match c,h with
 | 0,_=>decide
 | 1,_=>decide
 | 2,_=>decide
 | 3,_=>decide
 | 4,_=>decide
 | 5,_=>decide
 | 6,_=>decide
theorem GG.mono{B B':Nat}{g:Graph}(h:GG B g)(a:B<=B'):GG B' g:=⟨h.len,h.pars,fun c b=>(h.files c b).mono a⟩
theorem ZV(k:List Int)(n w:Int)(hn:0<=n/\n<=6)(hl:0<=w/\w<=16):FnOk prog 4 [L5 k,E2 n,E2 w] (fun rs=>∃g,rs=[N2 g]/\GG 250000 g/\GV g):=by
 have au:=Y6 (u7 k 0) (n:=n+1) B3;obtain⟨m,hm⟩:∃m:Nat,X8 (u7 k 0) (n+1)=(m:Int):=⟨(X8 (u7 k 0) (n+1)).toNat,by omega⟩
 have ar:m<=6:=by omega
 refine FnOk.intro Tryz.func4 F5 A0 A0 A0 A0 (J5 ?_);refine F0 (gX k 0 B3 B3) (H2 ?_);refine F0 (kV (u7 k 0) (n+1) B3 B3) (H2 ?_);rw[hm];refine H2 ?_;refine B6 (RT 7 (c:=H0) (ys:=([]:List Commit)) E5 A0 A0 A0 b3x) A0 (X0 ?_);refine C1 (X:=Nat×List Commit) (fun x=>([(0,B9 Int 1 E0 k),(1,B1 m),(2,B1 w),(7,.s (.one (.buf 7 Commit 3 H0 x.2))),(8,B1 x.1)],[(7,.spare x.2.length 3 39)])) (fun x=>x.1<=m/\x.2.length=x.1/\(∀y∈x.2,y.Parents.length<=3/\∀p∈y.Parents,0<=p/\p<(x.1:Int))/\(∀y∈x.2,GF (CH x.1) y.Files)/\GU (yV x.1) x.2) (fun x=>m-x.1) (0,[]) ⟨B37 _,rfl,(fun _ h=>by cases h),(fun _ h=>by cases h),(fun _ _ h=>by cases h),(fun _ h=>by cases h),(fun _ h=>by cases h)⟩ (C6) ?_;rintro⟨c,E⟩ ⟨hc,O,H,G,D⟩;dsimp only at hc O H G D ⊢;obtain⟨⟨ac,aq⟩,ad⟩:=bndG_le c B3;refine zc 7 (fun B=>?_) fun B=>?_;rotate_left
 ·refine I0 ?_;refine y5 (UR E k (CH c) (yV c) ⟨by omega,by rw[O];exact H,G⟩ D B3 ad) A0 A0 A0 ?_;rintro _ ⟨g',rfl,ak,ao⟩;refine H2 ?_;refine F8 ?_;exact A8 (rs:=[N2 g']) M3 ⟨g',rfl,GG.mono ak B3,ao⟩
 have al:c<m:=by have I:=A1 B;(try dsimp only at I);omega
 refine X0 ?_;refine F0 (gX k (1000+(c:Int)) B3 B3) (F0 (kV (u7 k (1000+(c:Int))) 5 B3 B3) (F8 ?_));refine B6 (E6 9 A0) A0 (H2 ?_);have ag:=Y6 (u7 k (1000+(c:Int))) (n:=5) B3;obtain⟨d,hd⟩:∃d,d=X8 (u7 k (1000+(c:Int))) 5:=⟨_,rfl⟩
 rw[<-hd]at ag ⊢;refine H2 ?_;refine C3 (A98 753 Int 1 E0 3 (kb:=9) (o:=0) A0 A0 A0) (R6 ?_);refine C1 (X:=Nat×List Int) (fun x=>([(0,B9 Int 1 E0 k),(1,B1 m),(2,B1 w),(7,.s (.one (.buf 7 Commit 3 H0 E))),(8,B1 c),(9,.s (.one (.ref 9 0))),(10,B1 x.1)],[(7,.spare E.length 3 39),(9,.box [.buf 753 Int 1 E0 x.2,.p (.v (.int .i64 d)),.p (.v (.slice none 0 0))]),(753,.spare x.2.length 1 3)])) (fun x=>x.1<=c/\x.2.length<=3/\(∀q∈x.2,0<=q/\q<(x.1:Int))/\x.2.Nodup) (fun x=>c-x.1) (0,[]) ⟨B37 _,by simp,(fun _ h=>by cases h),List.nodup_nil⟩ (C6) ?_;rintro⟨p,ps⟩ ⟨Y,P,F,hpn⟩;dsimp only at Y P F hpn ⊢;refine zc 7 (fun B=>?_) fun B=>?_
 ·have K:p<c:=by have I:=A1 B;(try dsimp only at I);omega
  refine o9 ?_;refine F0 (gX k (1100+40*(c:Int)+(p:Int)) B3 B3) (I0 ?_);refine E3 A0 A0 A0 A0 (fun A=>by rw[A];exact gO A0 (.buf _ _ _ _ _)) ?_;refine zc 3 (fun B=>?_) fun B=>?_
  ·have h2:=(A1 (and_pick.symm.trans B)).2;skip;refine R6 ?_;refine A9 (B8 (c:=E0) (ys:=[(p:Int)]) (C5 A0 A0 A0 A0 E5) A0 A0 A0) A0 (U7 ?_);refine⟨(p+1,ps++[(p:Int)]),⟨K,by rw[B25,B41];omega,fun x S=>?_,?_⟩,by dsimp only;omega,(C6)⟩
   ·rcases B36.1 S with S | S
    ·have:=F x S;dsimp only;omega
    ·rw[B33.1 S];dsimp only;omega
   ·dsimp only;refine List.nodup_append.2 ⟨hpn,by simp,fun a ha b hb e=>?_⟩;have:=F a ha;rw[e,B33.1 hb]at this;omega
  ·refine N0 ?_;exact⟨(p+1,ps),⟨K,P,fun x S=>by have:=F x S;dsimp only;omega,hpn⟩,by dsimp only;omega,(C6)⟩
 refine zz 15 ?_;refine E3 A0 A0 A0 A0 (fun A=>by have C:=A;(try simp at C);rw[A];exact X6 A0 A0 B3) ?_;refine E3 A0 A0 A0 A0 (fun A=>by have C:=A;(try simp at C);rw[A];exact I2 (gX k (1500+(c:Int)) B3 B3) A0 A0) ?_;refine E3 A0 A0 A0 A0 (fun A=>by have C:=A;(try simp at C);rw[A];exact FT A0 A0 B3) ?_;refine H8 ?_;refine MX (X:=List Int) (fun qs=>([(0,B9 Int 1 E0 k),(1,B1 m),(2,B1 w),(7,.s (.one (.buf 7 Commit 3 H0 E))),(8,B1 c),(9,.s (.one (.ref 9 0)))],[(7,.spare E.length 3 39),(9,.box [.p (.list Int 1 E0 qs),.p (.v (.int .i64 d)),.p (.v (.slice none 0 0))])])) (fun qs=>qs.length<=3/\(∀q∈qs,0<=q/\q<(c:Int))/\qs.Nodup) ?_ ?_
 ·refine zc 0 (fun B=>?_) fun B=>?_
  ·rw[xP,xP,B24,B24]at B;have h2:=A1 B.1.2;skip;refine H8 ?_;refine A9 (B8 (c:=E0) (ys:=[(c:Int)-1]) (C5 A0 A0 A0 A0 E5) A0 A0 A0) A0 (H8 ?_);exact⟨[(c:Int)-1],⟨by simp,fun q C=>by rw[B33.1 C];omega,by simp⟩,Sees.trans (B09 9 0 rfl rfl rfl) (C6)⟩
  ·refine F8 ?_;exact⟨ps,⟨P,fun q C=>by have:=F q C;omega,hpn⟩,Sees.trans (B09 9 0 rfl rfl rfl) (C6)⟩
 rintro qs ⟨am,R,an⟩;dsimp only;refine J5 ?_;refine y5 (HP k (2000+200*(c:Int)) w B3 hl) A0 A0 A0 ?_;rintro _ ⟨fl,rfl,ah,ai⟩;refine H8 ?_;refine R9 ?_;refine E3 A0 A0 A0 A0 (fun A=>by have C:=A;(try simp at C);rw[A];exact X6 A0 A0 B3) ?_;refine E3 A0 A0 A0 A0 (fun A=>by have C:=A;(try simp at C);rw[A];exact I2 (gX k (1600+(c:Int)) B3 B3) A0 A0) ?_;refine E3 A0 A0 A0 A0 (fun A=>by have C:=A;(try simp at C);rw[A];exact FT A0 A0 B3) ?_;refine H8 ?_;refine MX (X:=List File) (fun L=>([(0,B9 Int 1 E0 k),(1,B1 m),(2,B1 w),(7,.s (.one (.buf 7 Commit 3 H0 E))),(8,B1 c),(9,.s (.one (.ref 9 0)))],[(7,.spare E.length 3 39),(9,.box [.p (.list Int 1 E0 qs),.p (.v (.int .i64 d)),.p (.list File 2 Z7 L)])])) (fun L=>GF (CH (c+1)) L/\GN (yV (c+1)) L) ?_ ?_
 ·refine zc 0 (fun B=>?_) fun B=>?_
  ·rw[xP,B24]at B;have h2:=A1 B.1;obtain⟨q,Z,rfl⟩:∃q Z,qs=q::Z:=by
    cases qs with
    | nil=>simp at h2
    | cons q Z=>exact⟨q,Z,rfl⟩
   have av:=R q eR;have Q:q.toNat<E.length:=by omega
   obtain⟨T,M⟩:∃T,T=E[q.toNat]:=⟨_,rfl⟩
   have ap:E[q.toNat]?=some T:=by rw[M];simp[Q]
   have ae:=G T (by rw[M];exact B32 Q);have af:=D.tree T (by rw[M];exact B32 Q);skip;refine R6 ?_;refine A9 (F1 A0 (.pure _ _ _ _) A0 B3 (show (q::Z)[Int.toNat 0]?=some q from A0)) A0 (F8 ?_);refine A9 (F1 A0 (.buf _ _ _ _ _) A0 B3 ap) A0 (J5 ?_);refine y5 (UO T.Files k (2000+200*(c:Int)) w (CH c) (yV c) ae af ac B3 B3 hl) A0 A0 A0 ?_;rintro _ ⟨ab,rfl,U,V⟩;refine H8 ?_;refine GO ?_;exact⟨ab,⟨U,V⟩,(C6)⟩
  ·refine F8 ?_;exact⟨fl,⟨ah.mono (show 64<=CH (c+1) by rw[CH];omega),ai.mono (show 64<=yV (c+1) by rw[yV];omega)⟩,(C6)⟩
 rintro L ⟨aj,W⟩;dsimp only;skip;refine H8 ?_;refine A9 (B8 (c:=H0) (ys:=[⟨qs,d,L⟩]) (C5 A0 A0 A0 A0 E5) A0 A0 A0) A0 (X0 ?_);refine⟨(c+1,E++[⟨qs,d,L⟩]),⟨al,by dsimp only;rw[B25,B41,O],fun y z=>?_,fun y z=>?_,fun j p J=>?_,fun y z=>?_,fun y z=>?_⟩,by dsimp only;omega,(C6)⟩
 ·rcases B36.1 z with z | z
  ·exact⟨(H y z).1,fun p Y=>by have:=(H y z).2 p Y;dsimp only;omega⟩
  ·rw[B33.1 z];exact⟨am,fun p Y=>by have:=R p Y;dsimp only;omega⟩
 ·rcases B36.1 z with z | z
  ·exact (G y z).mono (show CH c<=CH (c+1) by rw[CH];omega)
  ·rw[B33.1 z];exact aj
 ·dsimp only at J;unfold D8 at J;rcases Nat.lt_trichotomy j E.length with I | I | I
  ·rw[B59 I]at J;exact D.up j p J
  ·subst I;rw[List.getElem?_concat_length]at J;have:=R p J;omega
  ·rw[B58 (by rw[B25,B41];omega)]at J;cases J
 ·rcases B36.1 z with z | z
  ·exact D.nice y z
  ·rw[B33.1 z];exact⟨an,by dsimp only;omega,by dsimp only;omega⟩
 ·rcases B36.1 z with z | z
  ·exact (D.tree y z).mono (show yV c<=yV (c+1) by rw[yV];omega)
  ·rw[B33.1 z];exact W
theorem HQ(a:List Int)(ha:a.length<=1099511627776):FnOk prog 16 [L5 a,L5 a] (fun rs=>rs=[F6 true]):=by
 refine FnOk.intro Tryz.func16 F5 A0 A0 A0 A0 ?_;refine zc 13 (fun b=>?_) fun b=>?_
 ·exact absurd rfl (A1 b)
 refine J5 ?_;refine C1 (X:=Nat) (fun i=>([(0,B9 Int 1 E0 a),(1,B9 Int 1 E0 a),(5,B1 i)],[])) (fun i=>i<=a.length) (fun i=>a.length-i) 0 (B37 _) (C6) ?_;intro i d;dsimp only at d ⊢;refine zc 8 (fun b=>?_) fun b=>?_
 ·have c:i<a.length:=by have:=A1 b;omega
  have e:=getI c;refine zz 13 ?_;refine D2 (zT A0 A0) A0 A0 ?_;refine zc 1 (fun b=>?_) fun b=>?_
  ·exact absurd rfl (A1 b)
  refine N0 ?_;exact⟨i+1,by omega,by omega,C6⟩
 ·refine N0 ?_;exact A8 (rs:=[F6 true]) M3 rfl
abbrev g0:Graph:=[⟨[],0,[⟨[120],[97,97]⟩]⟩]
abbrev ZW(A:AL.Auto)(x:Str×Str):Bool:=decide (0<(vK (jA A) x.1 x.2).length)
theorem xM{l:List File}(h:F3 l=0)(p:Str):P5 (Q7 l p)=0:=by
 unfold Q7;cases a:K0 l p with
 | none=>decide
 | some x =>
  obtain⟨y,b,_,rfl⟩:=dY a;exact (dH h).2.2.1 y b
theorem PG:F3 []=0:=by decide
theorem xN{g:Graph}(h:Valid g)(c:Nat):F3 (J0 g c)=0:=by
 unfold J0;by_cases a:c<g.length
 ·rw[B23 a];exact h.tree _ (B32 a)
 ·rw[B58 B3];exact PG
theorem PH{g:Graph}(h:Valid g){c:Nat}{x:Str×Str}(k:x∈(U0 g c).flatten):P5 x.1=0/\P5 x.2=0:=by
 obtain⟨l,j,i⟩:=List.mem_flatten.1 k;obtain⟨t,b,rfl⟩:=B62.1 j;obtain⟨d,_,rfl⟩:=B62.1 i;refine⟨xM ?_ _,xM (xN h c) _⟩;unfold N4 at b;split at b
 ·rw[B33.1 b];exact PG
 ·obtain⟨p,_,rfl⟩:=B62.1 b;exact xN h _
theorem US(g:Graph)(s:Int)(p:Str)(A:AL.Auto)(f:AG A)(h:FewT g)(l:Short g)(m:FnOk prog 34 [G5 p] (fun rs=>rs=[mP A,E2 0])) :
  FnOk prog 14 [N2 g,E2 s,G5 p] (fun rs=>rs=[L5 (x5 (ZW A) g s).1,E2 (x5 (ZW A) g s).2]):=by
 have a:=OH g s 36 Unit 2 (CC A) () (ZW A) h l (fun o c _ x q=>by
  obtain⟨d,e⟩:=PH o q
  exact PF A f x.1 x.2 d e)
 obtain⟨R,j⟩:∃R,R=x5 (ZW A) g s:=⟨_,rfl⟩
 rw[<-j]at a ⊢;refine FnOk.intro Tryz.func14 F5 A0 A0 A0 A0 (H2 ?_);refine A9 (K8 _ 1 E0) A0 (I0 ?_);refine F0 (m) (H8 ?_);refine B6 (E6 8 A0) A0 ?_;refine zc 9 (fun b=>?_) fun b=>?_
 ·cases b
 refine H2 ?_;refine C3 (B10 (t:=8) (k:=8) (cs:=[Cell.list AL.State 7 gI A.States,Cell.v (.int .i64 A.Start)]) A0 A0 A0 A0) (H8 ?_);refine A9 (NB A0) A0 (mK (a) A0 A0 A0 A0 ?_);rintro _ _ ⟨rfl,rfl⟩;refine⟨rfl,?_⟩;refine I0 ?_;refine F8 ?_;exact A8 (rs:=[L5 R.1,E2 R.2]) nP rfl
abbrev bb:Str:=[97,97]
abbrev g1:Graph:=[⟨[],0,[⟨[120],bb⟩]⟩]
theorem g1_few:FewT g1:=⟨⟨by decide,by decide⟩,fun c a=>by rw[B33.1 a];exact⟨by decide,by decide,by decide⟩⟩
theorem A70:Short g1:=fun c=>by
 unfold J0;cases c with
 | zero=>decide
 | succ c=>simp
theorem scr_bb:yN [] [bb]=[⟨0,0,0,1⟩]:=by
 unfold yN;rw[show F4 (D6 [[],[bb]]) []=[] by kernel_rfl,show F4 (D6 [[],[bb]]) [bb]=[0] by kernel_rfl];unfold jD;rw[i7];rfl
def qs(n:Nat):Str:=List.replicate n 113
def nodesS:List AL.Node:=(parsed [97,36]).1
def autoS:AL.Auto:=match X5 nodesS (j6 nodesS) 20 ((nodesS.length:Int)-1) 0 [⟨4,⟨0,0,0,0⟩,0,0⟩] with
 | some x=>⟨x.1,x.2⟩
 | none=>⟨[],0⟩
theorem KV:FnOk prog 34 [G5 [97,36]] (fun rs=>rs=[mP autoS,E2 0]):=by
 have h:=ZT [97,36] F5;rw[show parsed [97,36]=(nodesS,0) by kernel_rfl]at h;exact OV [97,36] nodesS autoS h (TX nodesS autoS.States autoS.Start 20 E7 (fun n a=>A1 (B27.1 (show (nodesS.all fun n=>decide (n.Kids.length<=4000))=true by kernel_rfl) n a)) (A1 (show decide (YU nodesS<=4000)=true by kernel_rfl)) E7 (A1 (show decide (autoS.States.length<=20000)=true by kernel_rfl)))
theorem rex_bs:ZW autoS ([],bb)=true:=by
 show decide (0<(r5 (jA autoS) (D5 []) (D5 bb) (yN (D5 []) (D5 bb))).length)=true;rw[show D5 []=[] by kernel_rfl,show D5 bb=[bb] by kernel_rfl,scr_bb]
 kernel_rfl
theorem PI:o5 g1 0=([0],0):=by kernel_rfl
theorem ZX:x5 (ZW autoS) g1 0=([0],0):=by
 have a:U0 g1 0=[[([],bb)]]:=by kernel_rfl
 unfold x5;rw[PI,A6 (fun e=>e rfl)];simp only[B99,List.filter_nil,x9,Int.toNat_zero,a,List.any_cons,List.any_nil,rex_bs,Bool.or_false,if_true]
theorem WZ:FnOk prog 5 [] (fun rs=>rs=[F6 true]):=by
 have b:=US g1 0 [97,36] autoS (ag_of E7) g1_few A70 KV;rw[ZX]at b;have a:=HC g1 0 g1_few;rw[PI]at a;refine FnOk.intro Tryz.func5 F5 A0 A0 A0 A0 (J5 ?_);refine A9 (B8 (c:=Z7) (ys:=[(⟨[120],[97,97]⟩:File)]) (C5 A0 A0 A0 A0 E5) A0 A0 A0) A0 (F8 ?_);refine zZ ((A99 Int 1 E0 8 0 A0 A0)) (A9 (B8 (c:=H0) (ys:=g1) (C5 A0 A0 A0 A0 E5) A0 A0 A0) A0 (I0 ?_));refine F0 (b) (U7 ?_);refine A9 (B8 (c:=E0) (ys:=[(0:Int)]) (C5 A0 A0 A0 A0 E5) A0 A0 A0) A0 (F0 (a) (o9 ?_));refine E4 A0 A0 A0 A0 (F8 ?_);refine E4 A0 A0 A0 A0 (F8 ?_);refine A9 (Y2 A0 (rfl) A0) A0 (F8 ?_);refine E4 A0 A0 A0 A0 (F8 ?_);refine E4 A0 A0 A0 A0 (A9 (B8 (c:=E0) (ys:=[(0:Int)]) (C5 A0 A0 A0 A0 E5) A0 A0 A0) A0 (E4 A0 A0 A0 A0 (F0 (HQ [0] F5) (A9 (Y2 A0 (rfl) A0) A0 (F8 ?_)))));refine E4 A0 A0 A0 A0 (F8 ?_);refine E4 A0 A0 A0 A0 (A9 (B8 (c:=E0) (ys:=[(0:Int)]) (C5 A0 A0 A0 A0 E5) A0 A0 A0) A0 (E4 A0 A0 A0 A0 (F0 (HQ [0] F5) (A9 (Y2 A0 (rfl) A0) A0 (H8 ?_)))));exact A8 (rs:=[F6 true]) M3 rfl
abbrev yW(i:Int):Ob:=.box [.p (.v (.int .i64 i))]
theorem xO{gf:Fr}{ob:Obs}(e i j:Int)(d:List Span)(G:e<=1048576)(H:0<=j)(D:j<=536870912)(I:(d.length:Int)<=i)
  (A:B0 ob 5=some (.box [.buf 20 Span 2 spanC d]))(B:B0 ob 6=some (yW i))(C:B0 ob 7=some (yW j))(k:B0 ob 20=some (.spare d.length 2 73)) :
  AL.Met prog 164 [.one (.p (.v (.int .i64 e))),.one (.ref 6 0),.one (.ref 5 0),.one (.ref 7 0)] gf ob [20]
   (fun F ob'=>F=[]/\ob'=(5,.box [.buf 20 Span 2 spanC (d++O2 i j (e-i).toNat)])::(6,yW (i+(e-i).toNat))::(7,yW (j+(e-i).toNat))::(20,.spare (d++O2 i j (e-i).toNat).length 2 73)::Obs.forget 20 ob):=by
 refine AL.Met.introH Tryz.func164 F5 rfl rfl rfl (fun w=>?_);refine k3 ?_;refine C1 (X:=Nat) (fun t=>([(0,B1 e),(1,.s (.one (.ref 6 0))),(2,.s (.one (.ref 5 0))),(3,.s (.one (.ref 7 0)))]++Fr.forget 20 gf,(5,.box [.buf 20 Span 2 spanC (d++O2 i j t)])::(6,yW (i+t))::(7,yW (j+t))::(20,.spare (d++O2 i j t).length 2 73)::Obs.forget 20 ob)) (fun t=>t<=(e-i).toNat) (fun t=>(e-i).toNat-t) 0 (B37 _) ?_ ?_
 ·rw[eZ,B71,show i+((0:Nat):Int)=i by omega,show j+((0:Nat):Int)=j by omega];exact A92 20 (l:=[(0,B1 e),(1,.s (.one (.ref 6 0))),(2,.s (.one (.ref 5 0))),(3,.s (.one (.ref 7 0)))]) (L:=[(5,_),(6,_),(7,_),(20,_)]) lf w L6 ⟨A,B,C,k,trivial⟩
 intro t q;dsimp only at q ⊢;have E:=n8 i j t;refine zc 7 (fun m=>?_) fun m=>?_
 ·have y:=A1 m;refine U7 ?_;refine A9 (B8 (c:=spanC) (ys:=[⟨i+t,j+t⟩]) (C5 A0 A0 A0 A0 E5) A0 A0 A0) A0 (B6 (R7 A0 A0 A0 (.pure _ _ _ _) b5x A0) A0 (eI ?_));refine⟨t+1,by omega,by omega,?_⟩;rw[uH,<-B51,show i+((t+1:Nat):Int)=i+t+1 by omega,show j+((t+1:Nat):Int)=j+t+1 by omega];exact A91 lf (P1 w) b0x (D4 (L:=[(5,_),(6,_),(7,_),(20,_)]) ⟨rfl,rfl,rfl,rfl,trivial⟩ b7w)
 ·have y:=A2 m;have z:t=(e-i).toNat:=by omega
  subst z;refine F8 ?_;exact Q0 (fJ rfl) bZ (fun _ _ h=>h) ⟨rfl,rfl⟩
theorem ZY(l:List Change)(m:Int)(O:l.length<=32768)(P:m<=4096)(hb:∀c∈l,c.Old<=4096/\0<=c.OldLen/\c.OldLen<=4096/\0<=c.NewLen/\c.NewLen<=4096) :
  FnOk prog 131 [pChanges l,E2 m] (fun L=>L=[pSpans (j5 l m)]):=by
 refine FnOk.intro Tryz.func131 F5 A0 A0 A0 A0 (N0 ?_);refine B6 (E6 5 A0) A0 (F8 ?_);refine C3 (A98 20 Span 2 spanC 73 (kb:=5) (o:=0) A0 A0 A0) (H2 ?_);refine B6 (E6 6 A0) A0 (B6 (E6 7 A0) A0 (zz 16 ?_));refine C1 (X:=Nat×Int×Int×List Span) (fun x=>([(1,B1 m),(5,.s (.one (.ref 5 0))),(6,.s (.one (.ref 6 0))),(7,.s (.one (.ref 7 0))),(8,.s (.one (.clo 164 [] [(6,0),(5,0),(7,0)]))),(12,B9 Change 4 changeC l),(13,B1 l.length),(14,B1 x.1)],[(5,.box [.buf 20 Span 2 spanC x.2.2.2]),(6,yW x.2.1),(7,yW x.2.2.1),(20,.spare x.2.2.2.length 2 73)]))
  (fun x=>x.1<=l.length/\0<=x.2.1/\(x.2.2.2.length:Int)<=x.2.1/\x.2.1<=4096+x.1*4096/\0<=x.2.2.1/\x.2.2.1<=x.1*8192/\x.2.2.2++Y7 x.2.1 x.2.2.1 (l.drop x.1) m=j5 l m)
  (fun x=>l.length-x.1) (0,0,0,[]) (by simp[j5]) (C6) ?_
 rintro⟨k,i,j,d⟩ ⟨I,H,D,z,A,B,q⟩;dsimp only at I H D z A B q ⊢;refine zc 5 (fun F=>?_) fun F=>?_
 ·have y:k<l.length:=by have:=A1 F;omega
  obtain⟨c,w⟩:∃c,c=l[k]:=⟨_,rfl⟩
  have K:l[k]?=some c:=by rw[w];simp[y]
  have M:=hb c (B43 K);rw[B40 y,<-w,Y7]at q;refine J5 ?_;refine B6 (E6 10 A0) A0 (H8 ?_);refine d7 [(1,B1 m),(5,.s (.one (.ref 5 0))),(6,.s (.one (.ref 6 0))),(7,.s (.one (.ref 7 0))),(8,.s (.one (.clo 164 [] [(6,0),(5,0),(7,0)]))),(10,.s (.one (.ref 10 0))),(12,B9 Change 4 changeC l),(13,B1 l.length),(14,B1 k)] [(5,.box [.buf 20 Span 2 spanC d]),(6,yW i),(7,yW j),(20,.spare d.length 2 73),(10,.box [.p (.v (.int .i64 c.Old)),.p (.v (.int .i64 c.OldLen)),.p (.v (.int .i64 c.New)),.p (.v (.int .i64 c.NewLen))])] (C6) (R6 ?_);refine iP (xO c.Old i j d B3 A B3 D A0 A0 A0 A0) A0 A0 A0 A0 ?_;rintro _ _ ⟨rfl,rfl⟩;refine F8 ?_;obtain⟨n,J⟩:∃n,n=(c.Old-i).toNat:=⟨_,rfl⟩
  rw[<-J]at q ⊢;refine d7 [(1,B1 m),(5,.s (.one (.ref 5 0))),(6,.s (.one (.ref 6 0))),(7,.s (.one (.ref 7 0))),(8,.s (.one (.clo 164 [] [(6,0),(5,0),(7,0)]))),(10,.s (.one (.ref 10 0))),(12,B9 Change 4 changeC l),(13,B1 l.length),(14,B1 k)] [(5,.box [.buf 20 Span 2 spanC (d++O2 i j n)]),(6,yW (i+n)),(7,yW (j+n)),(20,.spare (d++O2 i j n).length 2 73),(10,.box [.p (.v (.int .i64 c.Old)),.p (.v (.int .i64 c.OldLen)),.p (.v (.int .i64 c.New)),.p (.v (.int .i64 c.NewLen))])] (C6) (tH [9,8] [[],[8],[9,8]] [(4,[8]),(5,[8]),(6,[8]),(7,[8])] E7 E7 (dS A0 (D1 A0 A0 A0) (dS A0 (D3 A0) (dS A0 (D1 A0 A0 A0) (dS A0 (X6 A0 A0 B3) (dS A0 (D1 A0 A0 A0) (dS A0 (D3 A0) (dS A0 (D1 A0 A0 A0) (dS A0 (X6 A0 A0 B3) (zD (dO TySz.out A0 A0 A0 A0 A0 A0) (zD (dO TySz.out A0 A0 A0 A0 A0 A0) ?_)))))))))));refine a_nil rfl ?_ ?_
  ·refine Q4 A0 A0 (D1 A0 A0 A0) (Q4 A0 A0 (D3 A0) (Q4 A0 A0 (D1 A0 A0 A0) (Q4 A0 A0 (X6 A0 A0 B3) ?_)));exact o_nil
  refine R6 ?_;have E:=n8 i j n;have G:max i c.Old=i+n:=by omega
  rw[G]at q;exact⟨(k+1,i+n+c.OldLen,j+n+c.NewLen,d++O2 i j n),⟨by dsimp only;omega,by dsimp only;omega,by dsimp only;rw[B25,E];omega,by dsimp only;omega,by dsimp only;omega,by dsimp only;omega,by dsimp only;rw[B51];exact q⟩,by dsimp only;omega,C6⟩
 ·have C:k=l.length:=by have:=A2 F;omega
  rw[C,B53 (B29 _),Y7]at q;refine I0 ?_;refine iP (xO m i j d B3 A B3 D A0 A0 A0 A0) A0 A0 A0 A0 ?_;rintro _ _ ⟨rfl,rfl⟩;refine H2 ?_;rw[q];refine C3 (Sees.forget 20) (I0 ?_);exact A8 M3 rfl
theorem wF{l:List Change}{m n:Int}(a:ScOk 0 0 l m n):∀c∈l,c.Old<=4096/\0<=c.OldLen/\c.OldLen<=4096/\0<=c.NewLen/\c.NewLen<=4096:=by
 intro c j;obtain⟨k,b,rfl⟩:=List.mem_iff_getElem.1 j;have:=a.get k b;have e:G7 l k=l[k]:=by unfold G7;simp[b]
 rw[e]at this;obtain⟨⟨_,d⟩,⟨f,g⟩,_,⟨h,i⟩,_⟩:=this;exact⟨d,f,g,h,i⟩
theorem PJ{l:List Change}{m n:Int}(d:m<=4096)(a:ScOk 0 0 l m n):(j5 l m).length<=4096:=by
 have:=wI l 0 0 m B3 4096 B3 (fun c b=>⟨by have:=(wF a c b).1;omega,(wF a c b).2.1⟩);unfold j5;omega
def UT(a b:List Int)(p:Span):Prop:=0<=p.From/\0<=p.To/\∃v,a[p.From.toNat]?=some v/\b[p.To.toNat]?=some v
theorem A71(l:List Change)(a b:List Int)(r:l.length<=32768)(j:s9 l a.length b.length=0)(m:∀p∈j5 l a.length,UT a b p) :
  FnOk prog 91 [pChanges l,L5 a,L5 b] (fun t=>t=[F6 true]):=by
 obtain⟨⟨_,ha⟩,⟨_,hb⟩,e⟩:=ID j;have g:=wF e;have i:=PJ B3 e;obtain⟨ps,f⟩:∃ps,ps=j5 l a.length:=⟨_,rfl⟩
 rw[<-f]at i;refine FnOk.intro Tryz.func91 F5 A0 A0 A0 A0 (eI ?_);refine F0 (HF l a.length b.length B3) (H2 ?_);rw[j];refine zc 0 (fun c=>?_) fun c=>?_
 ·cases c
 refine J5 ?_;refine F0 (ZY l a.length r ha g) (H8 ?_);rw[<-f]at m ⊢;refine F8 ?_;refine C1 (X:=Nat) (fun k=>([(1,B9 Int 1 E0 a),(2,B9 Int 1 E0 b),(19,B9 Span 2 spanC ps),(20,B1 ps.length),(21,B1 k)],[])) (fun k=>k<=ps.length) (fun k=>ps.length-k) 0 (B37 _) (C6) ?_;intro k q;dsimp only at q ⊢;refine zc 5 (fun c=>?_) fun c=>?_
 ·have d:k<ps.length:=by have:=A1 c;omega
  obtain⟨p,h⟩:∃p,p=ps[k]:=⟨_,rfl⟩
  have s:ps[k]?=some p:=by rw[h];simp[d]
  obtain⟨u,w,v,n,o⟩:=m p (B43 s);have x:=(B28.1 n).1;have y:=(B28.1 o).1;refine J5 ?_;refine B6 (E6 8 A0) A0 (zz 14 ?_);refine D2 (zT A0 A0) A0 A0 ?_;refine zc 1 (fun c=>?_) fun c=>?_
  ·exact absurd (A1 c) eR
  refine I0 ?_;exact⟨k+1,d,by omega,C6⟩
 ·refine N0 ?_;exact A8 M3 rfl
theorem ZZ{x y:List Str}{names:List Str}{l:List Change}(h:ScFit x y l):∀p∈j5 l ((F4 names x).length:Int),UT (F4 names x) (F4 names y) p:=by
 intro p a;rw[show ((F4 names x).length:Int)=x.length by simp[F4]]at a;obtain⟨b,c,v,d,f⟩:=h.pairs p a;refine⟨b,c,L9 names v 0,?_,?_⟩
 ·unfold F4;rw[B92,d];rfl
 ·unfold F4;rw[B92,f];rfl
abbrev tI(i:Int):S1:=.one (.p (.v (.int .i64 i)))
abbrev tIs(l:List Int):S1:=.one (.p (.list Int 1 E0 l))
abbrev tB(b:Bool):S1:=.one (.p (.v (.bool b)))
abbrev sU(l:List Change)(a b:List Int):Obs:=[(700,.box [.mut 701,.p (.list Int 1 E0 a),.p (.list Int 1 E0 b)]),(701,.grow 125 Change 4 changeC l)]
def CI(c:Change)(a b:List Int):List S1:=if c.NewLen=0 then [tIs a,tI c.Old,tI c.OldLen,tB true] else if c.OldLen=0 then [tIs b,tI c.New,tI c.NewLen,tB true] else [.one (.p (.v (.slice none 0 0))),tI 0,tI 0,tB false]
theorem CJ{gf:Fr}(l:List Change)(a b:List Int)(k:Nat)(c:Change)(i:l[k]?=some c) :
  AL.Met prog 93 [.one (.ref 700 0),tI k] gf (sU l a b) [708] (fun j ob'=>j=CI c a b/\ob'=sU l a b):=by
 have m:=(B28.1 i).1;refine AL.Met.intro Tryz.func93 F5 A0 A0 A0 (zz 15 ?_);refine A9 (cM A0 A0 i A0) A0 (B6 (eV 708 A0 F5) A0 ?_);refine zc 11 (fun d=>?_) fun d=>?_
 ·have g:=A1 d;refine zz 16 ?_;exact D7 (rets4 rfl rfl rfl rfl rfl) bZ (ObIn.spec (ob':=sU l a b) ⟨rfl,rfl,trivial⟩) ⟨by unfold CI;rw[A5 g];rfl,rfl⟩
 ·have g:=A2 d;refine zc 7 (fun d=>?_) fun d=>?_
  ·have h:=A1 d;refine zz 16 ?_;exact D7 (rets4 rfl rfl rfl rfl rfl) bZ (ObIn.spec (ob':=sU l a b) ⟨rfl,rfl,trivial⟩) ⟨by unfold CI;rw[A6 g,A5 h];rfl,rfl⟩
  ·have h:=A2 d;refine U7 ?_;exact D7 (rets4 rfl rfl rfl rfl rfl) bZ (ObIn.spec (ob':=sU l a b) ⟨rfl,rfl,trivial⟩) ⟨by unfold CI;rw[A6 g,A6 h],rfl⟩
theorem XA{gf:Fr}(l:List Change)(a b:List Int)(k:Nat)(c:Change)(d:l[k]?=some c)(h:0<=c.Old/\c.Old<=4096)(i:0<=c.OldLen/\c.OldLen<=4096) :
  AL.Met prog 94 [.one (.ref 700 0),tI k] gf (sU l a b) [] (fun g ob'=>g=[tI (c.Old+c.OldLen)]/\ob'=sU l a b):=by
 have j:=(B28.1 d).1;refine AL.Met.intro Tryz.func94 F5 A0 A0 A0 (o9 ?_);refine D2 (G3 A0 A0 A0 B3 B3) A0 A0 (D2 (aZ A0) A0 A0 (D2 (V8 A0 A0 d A0) A0 A0 (I0 ?_)));refine D2 (G3 A0 A0 A0 B3 B3) A0 A0 (D2 (aZ A0) A0 A0 (D2 (V8 A0 A0 d A0) A0 A0 (R6 ?_)));exact D7 Y5 bZ (ObIn.spec (ob':=sU l a b) ⟨rfl,rfl,trivial⟩) ⟨rfl,rfl⟩
theorem b4x{p:Prop}(h:p:=by repeat (first | exact R0 | refine tail_drop rfl ?_ | refine P0 rfl ?_ | refine bH _ ?_)):p:=h
theorem A00{gf:Fr}(l:List Change)(a b:List Int)(k:Nat)(hk:k<l.length)(hl:l.length<=32768)(ha:a.length<=4096)(hb:b.length<=4096)(L:J7 0 0 0 l a.length b.length=true) :
  AL.Met prog 53 [.one (.ref 700 0),tI k] gf (sU l a b) [708] (fun rs ob'=>rs=[tB (U4 l a b k)]/\ob'=sU (if U4 l a b k=true then S4 l k else l) a b):=by
 have K:=aR _ _ _ _ _ _ L;obtain⟨c,F⟩:∃c,c=G7 l k:=⟨_,rfl⟩
 have P:l[k]?=some c:=by rw[F];exact fA hk
 have x:=K.get k hk;rw[<-F]at x;obtain⟨Y,Z,c3,c4,c5,c6⟩:=x;unfold I4 at Y Z c3 c4;have V:k+1<l.length->l[k+1]?=some (G7 l (k+1))/\0<=(G7 l (k+1)).Old/\(G7 l (k+1)).Old<=a.length:=fun h=>by
  have:=K.get (k+1) h;unfold I4 at this;exact⟨fA h,this.1.1,by omega⟩
 have G:k+1<l.length->l[((k:Int)+1).toNat]?=some (G7 l (k+1)):=fun h=>by
  rw[show ((k:Int)+1).toNat=k+1 by omega];exact fA h
 obtain⟨z,Q⟩:∃z:Int,z=if k+1<l.length then (G7 l (k+1)).Old-(c.Old+c.OldLen)-1 else a.length-(c.Old+c.OldLen):=⟨_,rfl⟩
 have T:=DD _ _ _ 0 0 0 L;have J:(∃(t:List Int) (f n:Int),CI c a b=[tIs t,tI f,tI n,tB true]/\U4 l a b k=decide (1<=z/\zQ t f=zQ t (f+n))/\t.length<=4096/\0<=f/\0<=n/\(1<=z->f+n<t.length))\/(CI c a b=[.one (.p (.v (.slice none 0 0))),tI 0,tI 0,tB false]/\U4 l a b k=false):=by
  have D:(1<=z↔(k+1=l.length\/c.Old+c.OldLen+1<(G7 l (k+1)).Old)/\c.Old+c.OldLen<a.length)/\(1<=z↔(k+1=l.length\/c.Old+c.OldLen+1<(G7 l (k+1)).Old)/\c.New+c.NewLen<b.length):=by
   by_cases q:k+1<l.length
   ·rw[A5 q]at Q;have g1:=V q;have g2:=K.get (k+1) q;have g3:=cV _ _ _ 0 0 0 L (k+1) q;rw[fY,fZ,<-F]at g3;unfold I4 aW DC at g3;unfold I4 at g2;omega
   ·rw[A6 q]at Q;have A:l.length=k+1:=by omega
    rw[A,fY,fZ,<-F]at T;unfold aW DC at T;omega
  unfold CI U4;rw[<-F];by_cases m:c.NewLen=0
  ·rw[A5 m,A5 m];refine .inl ⟨_,_,_,rfl,?_,ha,Y.1,Z.1,fun h=>(D.1.1 h).2⟩;have e:yF l k a c.Old c.OldLen↔1<=z/\zQ a c.Old=zQ a (c.Old+c.OldLen):=by
    unfold yF;rw[<-F,D.1];constructor
    ·rintro⟨⟨H,A⟩,M⟩;exact⟨⟨M,H⟩,A⟩
    ·rintro⟨⟨M,H⟩,A⟩;exact⟨⟨H,A⟩,M⟩
   simp only[e]
  ·rw[A6 m,A6 m];by_cases E:c.OldLen=0
   ·rw[A5 E,A5 E];refine .inl ⟨_,_,_,rfl,?_,hb,c3.1,c4.1,fun h=>(D.2.1 h).2⟩;have e:yF l k b c.New c.NewLen↔1<=z/\zQ b c.New=zQ b (c.New+c.NewLen):=by
     unfold yF;rw[<-F,D.2];constructor
     ·rintro⟨⟨H,A⟩,M⟩;exact⟨⟨M,H⟩,A⟩
     ·rintro⟨⟨M,H⟩,A⟩;exact⟨⟨H,A⟩,M⟩
    simp only[e]
   ·rw[A6 E,A6 E];exact .inr ⟨rfl,rfl⟩
 rcases J with ⟨t,f,n,hr,C,ac,f0,n0,fn⟩ | ⟨hr,C⟩
 ·have y:=fun gf=>CJ (gf:=gf) l a b k c P;rw[hr]at y;have R:∀i:Int,0<=i->i<t.length->t[i.toNat]?=some (zQ t i):=fun i h0 m=>by
   unfold zQ;rw[B30,B23 (show i.toNat<t.length by omega)];rfl
  refine AL.Met.introH Tryz.func53 F5 rfl rfl rfl (fun hH=>?_);refine X0 ?_;refine M9 (y _) A0 A0 A0 ?_;refine zc 16 (fun w=>?_) fun w=>?_
  ·cases w
  refine H2 ?_;refine d7 ([(0,.s (.one (.ref 700 0))),(1,B1 k),(5,B9 Int 1 E0 t),(6,B1 f),(7,B1 n)]++Fr.forget 708 gf) (sU l a b) (A91 lf (P1 hH) b4x (ObIn.spec (ob':=sU l a b) ⟨rfl,rfl,trivial⟩)) ?_;refine L8 [7] [[],[7]] [(7,([],[]))] [(0,[]),(1,[]),(2,[]),(3,[]),(4,[]),(5,[]),(6,[]),(7,[]),(8,[7]),(9,[7])] [(0,[7]),(1,[7]),(2,[7]),(3,[7]),(4,[7])] E7 E7 (C8 A0 A0 E7 A0 A0 (C4 A0 A0) (C8 A0 A0 E7 A0 A0 (C9 A0) (C8 A0 A0 E7 A0 A0 (D3 A0) (C8 A0 A0 E7 A0 A0 (D1 A0 A0 A0) (C8 A0 A0 E7 A0 A0 (gO A0 (.pure _ _ _ _)) (C8 A0 A0 E7 A0 A0 (C4 A0 A0) (C8 A0 A0 E7 A0 A0 (C4 A0 A0) (Y4 A0 A0 E7 A0 A0 (WH (fun gf=>XA l a b k c P Y Z) A0 A0) A0 (C8 A0 A0 E7 A0 A0 (S7 A0 A0 B3) (C8 A0 A0 E7 A0 A0 (Y0 A0 A0) ?_))))))))));refine xB E7 rfl ?_ ?_
  ·refine J1 A0 A0 E7 A0 A0 (C4 A0 A0) (J1 A0 A0 E7 A0 A0 (C9 A0) (J1 A0 A0 E7 A0 A0 (D3 A0) (J1 A0 A0 E7 A0 A0 (D1 A0 A0 A0) (J1 A0 A0 E7 A0 A0 (gO A0 (.pure _ _ _ _)) ?_))));exact jT
  refine GO ?_;refine d7 ([(0,.s (.one (.ref 700 0))),(1,B1 k),(5,B9 Int 1 E0 t),(6,B1 f),(7,B1 n),(9,B1 ((a.length:Int)-(c.Old+c.OldLen)))]++Fr.forget 708 gf) (sU l a b) (A91 lf (P1 hH) b4x (ObIn.spec (ob':=sU l a b) ⟨rfl,rfl,trivial⟩)) ?_;refine kO ([(0,.s (.one (.ref 700 0))),(1,B1 k),(5,B9 Int 1 E0 t),(6,B1 f),(7,B1 n),(9,B1 z)]++Fr.forget 708 gf) (sU l a b) ?_ ?_
  ·refine zc 11 (fun w=>?_) fun w=>?_
   ·have m:k+1<l.length:=by have:=A1 w;omega
    have ab:=V m;rw[A5 m]at Q;skip;refine L8 [11] [[],[11]] [(11,([],[]))] [(0,[]),(1,[]),(2,[]),(3,[]),(4,[]),(5,[]),(6,[]),(7,[]),(8,[]),(9,[]),(10,[]),(11,[]),(12,[11]),(13,[11]),(14,[11])] [(0,[11]),(1,[11]),(2,[11]),(3,[11]),(4,[11]),(5,[11]),(6,[11]),(7,[11]),(8,[11])] E7 E7 (C8 A0 A0 E7 A0 A0 (C4 A0 A0) (C8 A0 A0 E7 A0 A0 (C9 A0) (C8 A0 A0 E7 A0 A0 (D3 A0) (C8 A0 A0 E7 A0 A0 (D1 A0 A0 A0) (C8 A0 A0 E7 A0 A0 (C4 A0 A0) (C8 A0 A0 E7 A0 A0 (X6 A0 A0 B3) (C8 A0 A0 E7 A0 A0 (G3 A0 A0 A0 B3 B3) (C8 A0 A0 E7 A0 A0 (aZ A0) (C8 A0 A0 E7 A0 A0 (V8 A0 A0 (G m) A0) (C8 A0 A0 E7 A0 A0 (C4 A0 A0) (C8 A0 A0 E7 A0 A0 (C4 A0 A0) (Y4 A0 A0 E7 A0 A0 (WH (fun gf=>XA l a b k c P Y Z) A0 A0) A0 (C8 A0 A0 E7 A0 A0 (S7 A0 A0 B3) (C8 A0 A0 E7 A0 A0 (S7 A0 A0 B3) (C8 A0 A0 E7 A0 A0 (Y0 A0 A0) ?_)))))))))))))));refine xB E7 rfl ?_ ?_
    ·refine J1 A0 A0 E7 A0 A0 (C4 A0 A0) (J1 A0 A0 E7 A0 A0 (C9 A0) (J1 A0 A0 E7 A0 A0 (D3 A0) (J1 A0 A0 E7 A0 A0 (D1 A0 A0 A0) (J1 A0 A0 E7 A0 A0 (C4 A0 A0) (J1 A0 A0 E7 A0 A0 (X6 A0 A0 B3) (J1 A0 A0 E7 A0 A0 (G3 A0 A0 A0 B3 B3) (J1 A0 A0 E7 A0 A0 (aZ A0) (J1 A0 A0 E7 A0 A0 (V8 A0 A0 (G m) A0) ?_))))))));exact jT
    refine GO ?_;rw[Q];exact (A91 lf (P1 hH) b4x (ObIn.spec (ob':=sU l a b) ⟨rfl,rfl,trivial⟩))
   ·have m:¬k+1<l.length:=by have:=A2 w;omega
    rw[A6 m]at Q;refine F8 ?_;rw[Q];exact (A91 lf (P1 hH) b4x (ObIn.spec (ob':=sU l a b) ⟨rfl,rfl,trivial⟩))
  ·refine X0 ?_;refine G6 A0 A0 (fun x=>by have W:=x;(try simp at W);rw[x];exact F1 A0 (.pure _ _ _ _) A0 B3 (R f f0 (by have:=fn B3;omega))) A0 A0 ?_;refine R6 ?_;refine G6 A0 A0 (fun x=>by have W:=x;(try simp at W);rw[x];exact X6 A0 A0 B3) A0 A0 ?_;refine G6 A0 A0 (fun x=>by have W:=x;(try simp at W);rw[x];exact F1 A0 (.pure _ _ _ _) A0 B3 (R (f+n) B3 (by have:=fn B3;omega))) A0 A0 ?_;refine F8 ?_;refine G6 A0 A0 (fun x=>by rw[x];exact zT A0 A0) A0 A0 ?_;refine zc 2 (fun w=>?_) fun w=>?_
   ·have m:¬(1<=z/\zQ t f=zQ t (f+n)):=by
     rintro⟨H,A⟩;simp[A]at w;omega
    rw[C,A4 m];refine I0 ?_;exact D7 Y5 bZ (ObIn.spec (ob':=sU l a b) ⟨rfl,rfl,trivial⟩) ⟨rfl,rfl⟩
   ·have m:1<=z:=B55 fun q=>by simp[show z<1 by omega]at w
    have E:zQ t f=zQ t (f+n):=B55 fun q=>by simp[q]at w
    rw[C,A3 (show 1<=z/\zQ t f=zQ t (f+n) from⟨m,E⟩)];rw[A5 rfl];obtain⟨B,I⟩:∃B:Change,B={ c with Old:=c.Old+1 }:=⟨_,rfl⟩
    have X:(l.set k B)[k]?=some B:=C05 hk;have S:(l.set k B).set k ({ B with New:=B.New+1 }:Change)=S4 l k:=by
     rw[List.set_set];unfold S4;rw[<-F,I];rfl
    have U:(l.set k B).length=l.length:=by simp
    refine R9 ?_;refine A9 (V8 A0 A0 P A0) A0 (H8 ?_);refine V2 (o8 (({ c with Old:=c.Old+1 }:Change)) TySz.out A0 A0 P A0 A0 A0 A0 (fun _ _ _ h=>m8 h) (by intro j m E;rcases j with _ | _ | _ | _ | _ | _ | _ | j<;>first | rfl | omega)) ?_;refine F8 ?_;rw[B26,<-I];refine J5 ?_;refine A9 (G3 A0 A0 A0 B3 (by (rw[U];omega))) A0 ?_;refine F8 ?_;refine A9 (V8 A0 A0 X A0) A0 (A9 (X6 A0 A0 (by (rw[I];dsimp only;omega))) A0 ?_);refine A9 (G3 A0 A0 A0 B3 (by (rw[U];omega))) A0 ?_;refine F8 ?_;refine V2 (o8 (({ B with New:=B.New+1 }:Change)) TySz.out A0 A0 X A0 A0 A0 A0 (fun _ _ _ h=>m8 h) (by intro j m E;rcases j with _ | _ | _ | _ | _ | _ | _ | j<;>first | rfl | omega)) ?_;refine F8 ?_;rw[B26,S];refine I0 ?_;exact D7 Y5 bZ (ObIn.spec (ob':=sU (S4 l k) a b) ⟨rfl,rfl,trivial⟩) ⟨rfl,rfl⟩
 ·have y:=fun gf=>CJ (gf:=gf) l a b k c P;rw[hr]at y;rw[C];refine AL.Met.intro Tryz.func53 F5 A0 A0 A0 (X0 ?_);refine M9 (y _) A0 A0 A0 ?_;refine zc 16 (fun w=>?_) fun w=>?_
  ·refine I0 ?_;exact D7 Y5 bZ (ObIn.spec (ob':=sU l a b) ⟨rfl,rfl,trivial⟩) ⟨rfl,rfl⟩
  ·cases w
theorem A01{gf:Fr}{x y:List Str}{a b:List Int}(r:IdsOf x a)(u:IdsOf y b)(l:List Change)(k:Nat)(B:k<l.length)(I:l.length<=32768)(h:ScFit x y l) :
  AL.Met prog 52 [.one (.clo 53 [(700,0)] []),tI k] gf (sU l a b) [708] (fun H ob'=>(∃n:Int,H=[tI n])/\ob'=sU (W8 a b l k) a b):=by
 have z:=r.len;have A:=u.len;have F:=h.lx;have G:=h.ly;refine AL.Met.introH Tryz.func52 F5 rfl rfl rfl (fun v=>?_);refine R9 ?_;refine C3 (A92 708 (l:=[(0,.s (.one (.clo 53 [(700,0)] []))),(1,B1 k),(5,B1 0)]) (L:=sU l a b) lf v L6 ⟨rfl,rfl,trivial⟩) ?_;refine C1 (X:=Nat×List Change) (fun s=>([(0,.s (.one (.clo 53 [(700,0)] []))),(1,B1 k),(5,B1 s.1)]++Fr.forget 708 gf,sU s.2 a b)) (fun s=>s.2.length=l.length/\ScFit x y s.2/\W8 a b s.2 k=W8 a b l k/\s.1+iI s.2 a b k<=iI l a b k) (fun s=>iI s.2 a b k) (0,l) ⟨rfl,h,rfl,by dsimp only;omega⟩ (A91 lf (P1 v) L6 (ObIn.spec (ob':=sU l a b) ⟨rfl,rfl,trivial⟩)) ?_;rintro⟨n,m⟩ ⟨p,d,f,E⟩;dsimp only at p d f E ⊢;have q:=d.sc;rw[<-z,<-A]at q;have D:iI l a b k<=16384:=by
  have:=(aR _ _ _ _ _ _ h.sc).get k B;unfold iI;obtain⟨⟨J,_⟩,_,⟨K,_⟩,_⟩:=this;omega
 refine I0 ?_;refine iP (A00 m a b k B3 B3 B3 B3 q) A0 A0 A0 A0 ?_;rintro _ _ ⟨rfl,rfl⟩;refine zc 1 (fun j=>?_) fun j=>?_
 ·have C:=kG r u d B3 j;have i:=FO r u d B3 j;rw[A5 j];refine J5 ?_;refine⟨(n+1,S4 m k),⟨by dsimp only;rw[O9];exact p,d.down r u B3 j,by dsimp only;rw[<-i];exact f,by dsimp only;omega⟩,C,?_⟩;exact A91 lf (P1 v) b4x (ObIn.spec (ob':=sU (S4 m k) a b) ⟨rfl,rfl,trivial⟩)
 ·have i:=FP (a:=a) (b:=b) j;rw[i]at f;have w:(if U4 m a b k=true then S4 m k else m)=W8 a b l k:=by rw[<-f,A6 (by rw[j];decide)]
  rw[w];refine J5 ?_;exact D7 Y5 b0x (ObIn.spec (ob':=sU (W8 a b l k) a b) ⟨rfl,rfl,trivial⟩) ⟨⟨_,rfl⟩,rfl⟩
theorem A02{gf:Fr}(l:List Change)(k:l.length<=1073741824) :
  AL.Met prog 92 [.one (.p (.list Change 4 changeC l))] gf [] [701] (fun d ob'=>d=[.one (.mut 701)]/\ob'=[(701,.grow 125 Change 4 changeC l)]):=by
 refine AL.Met.intro Tryz.func92 F5 A0 A0 A0 (X0 ?_);(first | (refine IV (GC rfl (.pure _ _ _ _)) rfl ?_) | (refine IV (GC rfl (.buf _ _ _ _ _)) rfl ?_));rintro _ ⟨j,rfl,a⟩;refine F8 ?_;refine zc 0 (fun c=>?_) fun c=>?_
 ·rw[a c];refine H2 ?_;refine B6 (A41 701 _ changeC A0 A0) A0 (H2 ?_);exact D7 Y5 bZ (fun _ _ h=>h) ⟨rfl,rfl⟩
 ·refine H8 ?_;refine B6 (A42 701 _ changeC A0 A0 A0) A0 (F8 ?_);refine B6 (R5 A0 A0 A0 (.pure _ _ _ _) b6y A0) A0 (H2 ?_);simp only[B74];refine F8 ?_;exact D7 Y5 (by (repeat refine P0 rfl ?_);refine bH _ ?_;(repeat refine P0 rfl ?_);refine aK _ ?_;(repeat (first | exact R0 | refine P0 rfl ?_))) (ObIn.spec (ob':=[(701,.grow 125 Change 4 changeC l)]) ⟨rfl,trivial⟩) ⟨rfl,rfl⟩
theorem UU{gf:Fr}(l:List Change)(a b:List Int)(g:l.length<=32768)(d:s9 l a.length b.length=0)(h:∀p∈j5 l a.length,UT a b p) :
  AL.Met prog 51 [.one (.p (.list Change 4 changeC l)),tIs a,tIs b] gf [] [701,700] (fun j ob'=>j=[.one (.ref 700 0),tI 0]/\ob'=sU l a b):=by
 refine AL.Met.intro Tryz.func51 F5 A0 A0 A0 (o9 ?_);refine F0 (A71 l a b g d h) ?_;refine zc 2 (fun c=>?_) fun c=>?_
 ·cases c
 refine R6 ?_;refine M9 (A02 l B3) A0 A0 A0 (H8 ?_);refine B6 (e_box 700 A0 A0 A0 F5) A0 (R6 ?_);exact D7 b4y bZ (ObIn.spec (ob':=sU l a b) ⟨rfl,rfl,trivial⟩) ⟨rfl,rfl⟩
theorem A72(x y names:List Str)(l:List Change)(h:ScFit x y l)(C:l.length<=32768)(E:∀s∈x,s∈names)(F:∀s∈y,s∈names) :
  FnOk prog 24 [pChanges l,L5 (F4 names x),L5 (F4 names y)] (fun rs=>rs=[pChanges (DT l (F4 names x) (F4 names y)),E2 0]):=by
 obtain⟨a,ha⟩:∃a,a=F4 names x:=⟨_,rfl⟩
 obtain⟨b,hb⟩:∃b,b=F4 names y:=⟨_,rfl⟩
 have p:=ZZ (names:=names) h;have w:IdsOf x a:=by rw[ha];exact pU E
 have z:IdsOf y b:=by rw[hb];exact pU F
 rw[<-ha,<-hb]at p ⊢;have u:=w.len;have v:=z.len;have j:=h.check;rw[<-u,<-v]at j;refine FnOk.intro Tryz.func24 F5 A0 A0 A0 A0 (R9 ?_);refine M9 (UU l a b C j p) A0 A0 A0 ?_;refine zc 12 (fun i=>?_) fun i=>?_
 ·cases i
 refine R9 ?_;refine C1 (X:=Nat×List Change) (fun s=>([(8,.s (.one (.ref 700 0))),(10,B1 ((s.1:Int)-1))],sU s.2 a b)) (fun s=>s.1<=l.length/\s.2.length=l.length/\ScFit x y s.2/\kF a b s.1 s.2=DT l a b) (fun s=>s.1) (l.length,l) ⟨B29 _,rfl,h,rfl⟩ (C6) ?_;rintro⟨n,A⟩ ⟨D,q,g,c⟩;dsimp only at D q g c ⊢;refine zc 6 (fun i=>?_) fun i=>?_
 ·have m:0<n:=by have:=A1 i;omega
  obtain⟨k,rfl⟩:∃k,n=k+1:=⟨n-1,by omega⟩
  rw[show ((k+1:Nat):Int)-1=k by omega];have d:=uX w z g (k:=k) B3;have B:=DR d.2;refine J5 ?_;refine tE (A01 w z A k B3 B3 g) A0 A0 A0 ?_;rintro _ _ ⟨⟨cnt,rfl⟩,rfl⟩;refine F8 ?_;refine I0 ?_;exact⟨(k,W8 a b A k),⟨by dsimp only;omega,by dsimp only;omega,d.1,c⟩,by dsimp only;omega,C6⟩
 ·have m:n=0:=by have:=A2 i;omega
  subst m;have c:A=DT l a b:=c;refine R9 ?_;refine C3 (B14 (t:=6) A0 A0 A0) (k10 ?_);exact A8 nP (by rw[c])
theorem A03(on nn a b:Str)(ctx:Int)(d:Bool)(ha:Few a)(hb:Few b) :
  FnOk prog 8 [G5 on,G5 nn,G5 a,G5 b,E2 ctx,F6 d] (fun rs=>rs=[pPatch (DU on nn a b ctx d).1,E2 (DU on nn a b ctx d).2]):=by
 obtain⟨x,Q⟩:∃x,x=D5 a:=⟨_,rfl⟩
 obtain⟨y,R⟩:∃y,y=D5 b:=⟨_,rfl⟩
 obtain⟨f1,f2⟩:=aC a;obtain⟨f3,f4⟩:=aC b;rw[<-Q]at f1 f2;rw[<-R]at f3 f4;have M:=oR ha;have O:=oR hb;have U:=ha;have W:=hb;obtain⟨ha,V⟩:=ha;obtain⟨hb,Y⟩:=hb;rw[<-Q]at M V;rw[<-R]at O Y;have ai:∀s∈x,s∈D6 [x,y]:=fun s G=>aQ _ _ x eR G;have aj:∀s∈y,s∈D6 [x,y]:=fun s G=>aQ _ _ y eR G;have i1:(F4 (D6 [x,y]) x).length=x.length:=by simp[F4]
 have i2:(F4 (D6 [x,y]) y).length=y.length:=by simp[F4]
 have ag:=DJ x y B3 B3;have ak:=uO x y;have A:=(oQ x y d B3 B3).1;have ab:=QR x y d B3 B3;obtain⟨l,T⟩:∃l,l=lZ x y d:=⟨_,rfl⟩
 rw[<-T]at A ab;have B:DU on nn a b ctx d=if c9 on=false\/c9 nn=false then (wL,120) else if ctx<0\/1048576<ctx then (wL,3) else (⟨on,nn,R1 l x y ctx⟩,0):=by rw[T,Q,R];rfl
 refine FnOk.intro Tryz.func8 F5 A0 A0 A0 A0 (H2 ?_);refine B6 (E6 12 A0) A0 (N0 ?_);refine F0 (pL on) (H8 ?_);refine E3 A0 A0 A0 A0 (fun S=>by have hq:=S;(try simp at hq);rw[S];exact I2 (pL nn) A0 A0) ?_;refine zc 3 (fun j=>?_) fun j=>?_
 ·simp only[ZB,or_pick]at j;have h:=A1 j;refine N0 ?_;refine C3 (B08 PatchHunk 3 phunkC 12 2 A0 A0) (F8 ?_);exact A8 (rs:=[pPatch wL,E2 120]) (zY rfl rfl rfl rfl rfl rfl rfl) (by rw[B,A5 h])
 simp only[ZB,or_pick]at j;have h:=A2 j;rw[A6 h]at B;have ae:c9 on=true:=by cases q:c9 on<;>simp[q]at h ⊢
 have af:c9 nn=true:=by cases q:c9 nn<;>simp[q]at h ⊢
 refine R6 ?_;refine F0 (jV a B3) (N0 ?_);rw[M];refine zc 6 (fun j=>?_) fun j=>?_
 ·cases j
 refine R6 ?_;refine F0 (jV b B3) (N0 ?_);rw[O];refine zc 6 (fun j=>?_) fun j=>?_
 ·cases j
 refine I0 ?_;refine A9 (B8 (c:=strsC) (ys:=[x,y]) (C5 A0 A0 A0 A0 (C5 A0 A0 A0 A0 E5)) A0 A0 A0) A0 (F0 (tV [x,y] eR SH) (I0 ?_));refine D2 (F1 A0 (.pure _ _ _ _) A0 B3 (show ([x,y].map (F4 (D6 [x,y])))[(0:Int).toNat]?=some (F4 (D6 [x,y]) x) from A0)) A0 A0 (H2 ?_);refine D2 (F1 A0 (.pure _ _ _ _) A0 B3 (show ([x,y].map (F4 (D6 [x,y])))[(1:Int).toNat]?=some (F4 (D6 [x,y]) y) from A0)) A0 A0 (F8 ?_);refine D2 (I2 (BU (F4 (D6 [x,y]) x) (F4 (D6 [x,y]) y) B3 B3) A0 A0) A0 A0 (N0 ?_);rw[show jD (F4 (D6 [x,y]) x) (F4 (D6 [x,y]) y)=Y8 x y from rfl];refine GO ?_;refine d7 [(0,T0 on),(1,T0 nn),(4,B1 ctx),(5,H6 (.bool d)),(12,.s (.one (.ref 12 0))),(14,B9 Str 1 K6 x),(16,B9 Str 1 K6 y),(17,B9 (List Int) 1 intsC ([x,y].map (F4 (D6 [x,y])))),(18,B9 Change 4 changeC (Y8 x y))] [(12,.box [.p (.v (.string ⟨#[]⟩)),.p (.v (.string ⟨#[]⟩)),.p (.v (.slice none 0 0))])] (C6) ?_;refine kO [(0,T0 on),(1,T0 nn),(4,B1 ctx),(12,.s (.one (.ref 12 0))),(14,B9 Str 1 K6 x),(16,B9 Str 1 K6 y),(18,B9 Change 4 changeC l)] [(12,.box [.p (.v (.string ⟨#[]⟩)),.p (.v (.string ⟨#[]⟩)),.p (.v (.slice none 0 0))])] ?_ ?_
 ·refine zc 4 (fun j=>?_) fun j=>?_
  ·have Z:d=true:=j;have D:l=DT (Y8 x y) (F4 (D6 [x,y]) x) (F4 (D6 [x,y]) y):=by rw[T,Z];rfl
   skip;refine H8 ?_;refine D2 (F1 A0 (.pure _ _ _ _) A0 B3 (show ([x,y].map (F4 (D6 [x,y])))[(0:Int).toNat]?=some (F4 (D6 [x,y]) x) from A0)) A0 A0 (H2 ?_);refine D2 (F1 A0 (.pure _ _ _ _) A0 B3 (show ([x,y].map (F4 (D6 [x,y])))[(1:Int).toNat]?=some (F4 (D6 [x,y]) y) from A0)) A0 A0 (F8 ?_);refine D2 (I2 (A72 x y (D6 [x,y]) (Y8 x y) ag B3 ai aj) A0 A0) A0 A0 (I0 ?_);rw[<-D];refine GO ?_;exact C6
  ·have Z:d=false:=j;have D:l=Y8 x y:=by rw[T,Z];rfl
   rw[<-D];refine F8 ?_;exact C6
 refine X0 ?_;refine F0 (ZH l x.length y.length ctx B3) (X0 ?_);by_cases w:ctx<0\/1048576<ctx
 ·rw[A21 w];refine zc 4 (fun j=>?_) fun j=>?_
  ·refine J5 ?_;refine C3 (B08 PatchHunk 3 phunkC 12 2 A0 A0) (F8 ?_);exact A8 (rs:=[pPatch wL,E2 3]) (zY rfl rfl rfl rfl rfl rfl rfl) (by rw[B,A5 w])
  ·cases j
 rw[A22 A w];rw[A6 w]at B;have F:=DV on nn a b l ctx ae af w U W (by rw[<-Q,<-R];exact A);have H:=CY A.ok B3 (ctx:=ctx) l.length (B29 _);have ac:=(eE l x.length ctx l.length).1;have I:R1 l x y ctx=(H9 l x.length ctx l.length).map (M1 l x y):=rfl;obtain⟨g,S⟩:∃g,g=H9 l x.length ctx l.length:=⟨_,rfl⟩
 rw[<-S]at H ac I ⊢;refine zc 4 (fun j=>?_) fun j=>?_
 ·cases j
 refine N0 ?_;refine B6 (E6 21 A0) A0 (H2 ?_);refine d7 [(12,.s (.one (.ref 12 0))),(14,B9 Str 1 K6 x),(16,B9 Str 1 K6 y),(18,B9 Change 4 changeC l),(20,B9 Hunk 6 hunkC g),(21,.s (.one (.ref 21 0)))] [(12,.box [.p (.v (.string ⟨#[]⟩)),.p (.v (.string ⟨#[]⟩)),.p (.v (.slice none 0 0))]),(21,.box [.p (.v (.string ⟨on.toArray⟩)),.p (.v (.string ⟨nn.toArray⟩)),.p (.v (.slice none 0 0))])] (C6) (C3 (A98 702 PatchHunk 3 phunkC 78 (kb:=21) (o:=2) A0 A0 A0) (X0 ?_));refine C1 (X:=Nat) (fun k=>([(12,.s (.one (.ref 12 0))),(14,B9 Str 1 K6 x),(16,B9 Str 1 K6 y),(18,B9 Change 4 changeC l),(21,.s (.one (.ref 21 0))),(94,B9 Hunk 6 hunkC g),(95,B1 g.length),(96,B1 k)],[(12,.box [.p (.v (.string ⟨#[]⟩)),.p (.v (.string ⟨#[]⟩)),.p (.v (.slice none 0 0))]),(21,.box [.p (.v (.string ⟨on.toArray⟩)),.p (.v (.string ⟨nn.toArray⟩)),.buf 702 PatchHunk 3 phunkC ((g.take k).map (M1 l x y))]),(702,.spare ((g.take k).map (M1 l x y)).length 3 78)])) (fun k=>k<=g.length) (fun k=>g.length-k) 0 (B37 _) (C6) ?_;intro k hk;dsimp only at hk ⊢;refine zc 5 (fun j=>?_) fun j=>?_
 ·have E:k<g.length:=by have:=A1 j;omega
  obtain⟨q,K⟩:∃q,q=g[k]:=⟨_,rfl⟩
  have hv:g[k]?=some q:=by rw[K];simp[E]
  have hq:=H _ (B43 hv);have P:(g.take (k+1)).map (M1 l x y)=(g.take k).map (M1 l x y)++[M1 l x y q]:=by rw[B57 E,B65,K];rfl
  obtain⟨G,J⟩:∃G,G=(g.take k).map (M1 l x y):=⟨_,rfl⟩
  have al:G.length=k:=by rw[J,B75,B42];omega
  rw[<-J]at P ⊢;obtain⟨z,hz⟩:∃z,z=M1 l x y q:=⟨_,rfl⟩
  refine J5 ?_;refine B6 (E6 23 A0) A0 (I0 ?_);refine D2 (aF A0 A0 A0) A0 A0 (H8 ?_);refine D2 (I2 (ZI l x y q A.ok hq B3 B3 B3) A0 A0) A0 A0 (D2 (B8 (c:=phunkC) (ys:=[M1 l x y q]) (C5 A0 A0 A0 A0 E5) A0 A0 A0) A0 A0 (JB (R7 A0 A0 A0 (.pure _ _ _ _) NZ A0) A0 A0 (H8 ?_)));rw[<-P];refine R6 ?_;exact⟨k+1,E,by omega,C6⟩
 ·have ad:k=g.length:=by have:=A2 j;omega
  subst ad;rw[B38,<-I];have C:=F.fit;have L:=F.rg;have ah:=F.wr;rw[<-Q,<-R]at C L ah;refine I0 ?_;refine F0 (OM ⟨on,nn,R1 l x y ctx⟩ C L) ?_;refine zc 2 (fun j=>?_) fun j=>?_
  ·have h4:=A1 j;exact absurd h4 B3
  ·refine X0 ?_;exact A8 (rs:=[pPatch ⟨on,nn,R1 l x y ctx⟩,E2 0]) (zY rfl rfl rfl rfl rfl rfl rfl) (by rw[B])
def ptC:Patch->Nat->Cell:=fun p j=>match j with
 | 0=>.v (.string ⟨p.OldName.toArray⟩)
 | 1=>.v (.string ⟨p.NewName.toArray⟩)
 | _=>.list PatchHunk 3 phunkC p.Hunks
theorem path4(w:Int):∃b:Str,names4[(X8 w 4).toNat]?=some b:=by
 have h:=Y6 w (n:=4) B3;obtain⟨b,c,_⟩:=name4 (X8 w 4).toNat B3;exact⟨b,by rw[B26]at c;exact c⟩
theorem pars_at{g:Graph}{c:Nat}{a:Commit}(h:g[c]?=some a):D8 g c=a.Parents:=by unfold D8;rw[h];rfl
theorem KW(Y:List Int)(R y B:Int):FnOk prog 3 [L5 Y,E2 R,E2 y,E2 B] (fun rs=>rs=[F6 true]):=by
 refine FnOk.intro Tryz.func3 F5 A0 A0 A0 A0 (J5 ?_);refine y5 (ZV Y 6 4 B3 B3) A0 A0 A0 ?_;rintro _ ⟨g,rfl,E,Z⟩;refine H2 ?_;have hF:=E.few F5;have ak:=E.len;have aj:=hF.few;refine zc 7 (fun v=>?_) fun v=>?_
 ·refine H2 ?_;refine F0 (WZ) (H8 ?_);exact A8 (rs:=[F6 true]) M3 rfl
 have am:¬(g.length:Int)=0:=A2 v;have ad:=Y6 R (n:=(g.length:Int)) B3;refine N0 ?_;refine F0 (kV R (g.length:Int) B3 B3) (H2 ?_);obtain⟨c,ac⟩:∃c:Nat,X8 R (g.length:Int)=(c:Int):=⟨(X8 R (g.length:Int)).toNat,by omega⟩
 rw[ac]at ad ⊢;have hc:c<g.length:=by omega
 have ap:=Y6 y (n:=4) B3;obtain⟨h,af⟩:=path4 y;refine H2 ?_;refine A9 (B8 (c:=K6) (ys:=names4) (C5 A0 A0 A0 A0 (C5 A0 A0 A0 A0 (C5 A0 A0 A0 A0 (C5 A0 A0 A0 A0 E5)))) A0 A0 A0) A0 (F8 ?_);refine F0 (kV y 4 B3 B3) (R6 ?_);have U:∀{d:Nat},d<g.length->mC g d=0:=fun {d} J=>by
  unfold mC;rw[A6 (fun e=>e Z.check),A5 (show w9 g (d:Int) from⟨by omega,by omega⟩)]
 refine H2 ?_;refine B6 (U2 11 _ ptC A0) A0 (N0 ?_);refine F0 (OB g c h hF (U hc)) (X0 ?_);obtain⟨A,D⟩:∃w,w=Q7 (J0 g c) h:=⟨_,rfl⟩
 rw[<-D];refine I0 ?_;have ai:=Y6 B (n:=4) B3;refine F8 ?_;refine C1 (X:=Nat×Nat×List Patch) (fun x=>([(1,B1 x.2.1),(3,B1 B),(9,B9 Commit 3 H0 g),(10,T0 h),(11,.s (.one (.buf 11 Patch 3 ptC x.2.2))),(13,T0 A),(14,B1 0),(15,B1 x.1)],[(11,.spare x.2.2.length 3 34)])) (fun x=>x.2.1<g.length/\InWay g x.2.1 x.1/\x.2.2.length=x.1/\∃f,Backs A (Q7 (J0 g x.2.1) h) x.2.2 f) (fun x=>g.length-x.1) (0,c,[]) ⟨hc,InWay.init Z hc,rfl,fun _=>A,rfl,D,fun k hk=>by cases hk⟩ (C6) ?_;rintro⟨n,d,l⟩ ⟨J,O,hl,f,hb⟩;dsimp only at J O hl hb ⊢;have al:=O.lt J;obtain⟨H,I⟩:∃H,H=g[d]:=⟨_,rfl⟩
 have an:g[((d:Nat):Int).toNat]?=some H:=by rw[I];simp[J]
 have Q:=pars_at (show g[d]?=some H by rw[I];simp[J])
 have K:=gv_few Z (vD g d) h;have T:=gv_few Z (.inl ⟨d,rfl⟩) h (l:=J0 g d);obtain⟨p,e1,z1,a1⟩:=A84 (Q7 (R2 g d) h) (Q7 (J0 g d) h) (X8 B 4) true B3 K T;have w1:=A03 [111] [110] (Q7 (R2 g d) h) (Q7 (J0 g d) h) (X8 B 4) true K T;rw[e1]at w1;have C:=hb.snoc z1 K.1 a1;refine zc 12 (fun v=>?_) fun v=>?_;rotate_left
 ·exfalso;rw[and_pick]at v;have:=A2 v;omega
 refine d7 [(1,B1 d),(3,B1 B),(9,B9 Commit 3 H0 g),(10,T0 h),(11,.s (.one (.buf 11 Patch 3 ptC l))),(13,T0 A),(14,B1 0),(15,B1 n)] [(11,.spare l.length 3 34)] (C6) (X0 ?_);refine F0 (OB g d h hF (U J)) (zz 13 ?_);refine F0 (kV B 4 B3 B3) (F0 (w1) (H8 ?_));refine B6 (E6 19 A0) A0 ?_;refine zc 13 (fun v=>?_) fun v=>?_
 ·exfalso;rw[or_pick]at v;have:=A1 v;omega
 refine I0 ?_;refine A9 (B8 (c:=ptC) (ys:=[p]) (C5 A0 A0 A0 A0 E5) A0 A0 A0) A0 ?_;refine zc 14 (fun v=>?_) fun v=>?_;rotate_left
 ·have W:¬H.Parents=[]:=fun e=>by
   have S:=A2 v;rw[e]at S;exact S rfl
  obtain⟨q,r,G⟩:=List.exists_cons_of_ne_nil W;have hq:=(E.pars H (by rw[I];exact B32 J)).2 q (by rw[G];simp);obtain⟨m,hm⟩:∃m:Nat,q=(m:Int):=⟨q.toNat,by omega⟩
  have ao:H.Parents[Int.toNat 0]?=some (m:Int):=by rw[G,hm];rfl
  have V:(m:Int)∈D8 g d:=by rw[Q,G,hm];simp
  have M:R2 g d=J0 g m:=by unfold R2;rw[Q,G,hm];rfl
  refine zz 16 ?_;refine⟨(n+1,m,l++[p]),⟨by dsimp only;omega,O.step V,by dsimp only;rw[B25,B41,hl],_,by dsimp only;rw[<-M];exact C⟩,by dsimp only;omega,(C6)⟩
 have he:H.Parents=[]:=by
  have S:=A1 v;exact List.length_eq_zero_iff.1 B3
 have M:Q7 (R2 g d) h=[]:=by unfold R2;rw[Q,he];rfl
 rw[M]at C;obtain⟨L,hL⟩:∃L,L=l++[p]:=⟨_,rfl⟩
 have ah:L.length=n+1:=by rw[hL,B25,B41,hl]
 rw[<-hL]at C ⊢;obtain⟨F,ab⟩:∃F,F=(fun k=>if k<=l.length then f k else ([]:Str)):=⟨_,rfl⟩
 rw[<-ab]at C;refine zz 14 ?_;refine C1 (X:=Nat) (fun j=>([(11,.s (.one (.buf 11 Patch 3 ptC L))),(13,T0 A),(14,B1 0),(21,T0 (F j)),(22,B1 ((j:Int)-1))],[(11,.spare L.length 3 34)])) (fun j=>j<=L.length) (fun j=>j) L.length (B29 _) (by dsimp only;rw[C.e];exact (C6)) ?_;intro j hj;dsimp only at hj ⊢;refine zc 6 (fun v=>?_) fun v=>?_;rotate_left
 ·have ae:j=0:=by have S:=A2 v;omega
  subst ae;rw[C.z];refine X0 ?_;refine E3 A0 A0 A0 A0 (fun E=>by rw[E];exact IY A0 A0) ?_;refine H8 ?_;refine E3 A0 A0 A0 A0 (fun E=>by rw[E];exact gO A0 (.buf _ _ _ _ _)) ?_;refine H8 ?_;refine E3 A0 A0 A0 A0 (fun E=>by have hq:=E;(try simp at hq);rw[E];exact I2 (WZ) A0 A0) ?_;refine R6 ?_;exact A8 M3 SH
 obtain⟨k,rfl⟩:∃k,j=k+1:=⟨j-1,by have S:=A1 v;omega⟩
 rw[show ((k+1:Nat):Int)-1=(k:Int) by omega];obtain⟨s1,s2,s3⟩:=C.st k B3;obtain⟨P,hP⟩:∃P,P=L[k]:=⟨_,rfl⟩
 rw[<-hP]at s1 s3;have ag:L[((k:Nat):Int).toNat]?=some P:=by rw[hP,B26];exact B23 B3
 have w2:=OQ P (F (k+1)) s1 B3;rw[s3]at w2;refine J5 ?_;refine A9 (F1 A0 (.buf _ _ _ _ _) A0 B3 ag) A0 (H2 ?_);refine F0 (w2) ?_;refine zc 11 (fun v=>?_) fun v=>?_
 ·exact absurd rfl (A1 v)
 refine N0 ?_;exact⟨k,by omega,by omega,(C6)⟩
end Go.Proofs.YtmbpmaofnddkoaaGreatDoor
