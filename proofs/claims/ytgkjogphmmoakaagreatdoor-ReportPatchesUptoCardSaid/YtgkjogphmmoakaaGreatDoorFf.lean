/- Walks of the program's functions. -/
import Derived.Test.YtgkjogphmmoakaaGreatDoorFeB
set_option linter.all false
namespace Go.Proofs.YtgkjogphmmoakaaGreatDoor
open Go Go.AL
set_option maxRecDepth 100000
set_option maxHeartbeats 1000000
structure GF (B:Nat) (l:List File):Prop where
 len:l.length<=4
 all:∀f∈l,f.Path.length<=3/\f.Blob.length<=B
theorem GF.few{B:Nat}{l:List File}(h:GF B l)(b:B<=16777216):FewF l :=
 ⟨by have:=h.len;omega,fun f a=>by have:=(h.all f a).1;omega,fun f a=>by have:=(h.all f a).2;omega⟩
theorem GF.mono{B B':Nat}{l:List File}(h:GF B l)(b:B<=B'):GF B' l:=⟨h.len,fun f a=>⟨(h.all f a).1,by have:=(h.all f a).2;omega⟩⟩
theorem name4(i:Nat)(h:i<4):∃b:Str,names4[((i:Nat):Int).toNat]?=some b/\b.length<=3:=by
 rw[A36]
 match i,h with
 | 0,_=>exact⟨_,rfl,by decide⟩
 | 1,_=>exact⟨_,rfl,by decide⟩
 | 2,_=>exact⟨_,rfl,by decide⟩
 | 3,_=>exact⟨_,rfl,by decide⟩
theorem MN(a:Str)(b:List Int)(k:Int):(fA a b k).length<=5*a.length:=by
 have c:=gX b k (E9 a) 0 [];have d:=aF a;rw[Y9]at c;unfold fA;simp only[A38]at c;omega
theorem RN(k:Int):(t6 k).count 10=0:=by
 have h:∀s∈lineTab,s.count 10=0:=by decide
 have d:=Y8 k (n:=10) (by omega);have b:(W8 k 10).toNat<lineTab.length:=by show _<10;omega
 unfold t6;rw[A43,A32 b];exact h _ (A37 b)
theorem kZ(a:List Int)(k:Int):∀(l:List Str) (i:Nat) (s:Str),(m9 a k i s l).count 10<=s.count 10+l.flatten.count 10+l.length
 | [],i,s=>by simp[m9]
 | x::r,i,s=>by
  have e:=kZ a k r (i+1) s;have f:=kZ a k r (i+1) (s++t6 (o8 a (k+40+(i:Int)))++[10]++x);have g:=kZ a k r (i+1) (s++x);have b:=RN (o8 a (k+40+(i:Int)));have d:List.count (10:UInt8) [10]=1:=by decide
  simp only[List.count_append,b,d,A62,A34]at *;unfold m9;split
  ·omega
  split
  ·omega
  ·omega
theorem MO(a:Str)(b:List Int)(k:Int):(fA a b k).count 10<=2*a.count 10+1:=by
 have d:=kZ b k (E9 a) 0 [];have e:=bJ a;rw[Y9]at d;unfold fA;simp only[List.count_nil]at d;split at e<;>omega
theorem wL(k:Int):NoDig (t6 k):=by
 have h:∀s∈lineTab,∀c∈s,c.toNat<48\/57<c.toNat:=by decide
 have d:=Y8 k (n:=10) (by omega);have b:(W8 k 10).toNat<lineTab.length:=by show _<10;omega
 unfold t6;rw[A43,A32 b];exact h _ (A37 b)
theorem VO:NoDig [10]:=fun c a=>by rw[List.mem_singleton.1 a];decide
theorem iC(b:List Int)(k:Int):∀(l:List Str) (i:Nat) (s:Str),NoDig s->(∀x∈l,NoDig x)->NoDig (m9 b k i s l)
 | [],_,_,hs,_=>hs
 | x::r,i,s,hs,hl=>by
  have d:=hl x (by simp);have c:∀y∈r,NoDig y:=fun y e=>hl y (by simp[e]);unfold m9;split
  ·exact iC b k r _ _ hs c
  split
  ·exact iC b k r _ _ (((hs.app (wL _)).app VO).app d) c
  ·exact iC b k r _ _ (hs.app d) c
theorem MP{a:Str}(h:NoDig a)(b:List Int)(k:Int):NoDig (fA a b k) :=
 iC b k _ 0 [] (fun _ h=>by cases h) fun x e=>h.sub fun c d=>by rw[<-Y9 a];exact List.mem_flatten.2 ⟨x,e,d⟩
theorem fG(d:List Int)(k b:Int):∀m,NoDig (Z2 d k b m)
 | 0=>fun c e=>by simp[Z2]at e
 | m+1=>by rw[dE];exact ((fG d k b m).app (wL _)).app VO
theorem MQ(d:List Int)(k n a:Int):NoDig (gW d k n a):=by
 unfold gW;simp only;split
 ·exact (fG d k a _).sub fun c e=>List.mem_of_mem_take e
 ·exact fG d k a _
theorem EB{α:Type}{l:List α}{i:Nat}{x:α}(h:l[i]?=some x):l.take (i+1)=l.take i++[x]:=by rw[List.take_add_one,h];rfl
theorem BK(j:List Int)(k d:Int)(I:0<=k/\k<=1000000)(C:0<=d/\d<=16):FnOk Tryz.prog 15 [O1 j,E2 k,E2 d] (fun rs=>∃l,rs=[cE l]/\GF 64 l/\GN 64 l):=by
 refine FnOk.intro Tryz.func15 (by decide) Z Z Z Z ?_;refine k2 ?_;refine A7 (A6 (A9 Z Z) Z (B0 ?_));refine k1 (k2 ?_);refine A7 (A6 (E0 (c:=J9) (ys:=names4) (D9 Z Z Z Z (D9 Z Z Z Z (D9 Z Z Z Z (D9 Z Z Z Z H2)))) Z Z Z) Z (A6 (A9 Z Z) Z (B0 ?_)));refine k1 (k2 ?_);refine A7 (D2 (r5 8 _ l9 Z) Z (B0 ?_));refine k1 (k2 (k2 ?_));refine A7 (A6 (A9 Z Z) Z (B0 ?_));refine k1 (k3 ?_);refine E3 (X:=Nat×List File) (fun x=>([(0,D7 Int 1 H1 j),(1,C7 k),(2,C7 d),(7,D7 Str 1 J9 names4),(8,.s (.one (.buf 8 File 2 l9 x.2))),(9,C7 x.1)],[(8,.spare x.2.length 2 60)])) (fun x=>x.1<=4/\x.2.length<=x.1/\(∀f∈x.2,f.Path.length<=3/\f.Blob.length<=64)/\(x.2.map (·.Path)).Sublist (names4.take x.1)/\∀f∈x.2,NoDig f.Blob) (fun x=>4-x.1) (0,[]) ⟨Nat.zero_le _,Nat.le_refl _,(fun _ h=>by cases h),List.Sublist.refl [],(fun _ h=>by cases h)⟩ (Sees.of ⟨B5 rfl,B5 rfl,B5 rfl,B5 rfl,B5 rfl,B5 rfl,trivial⟩ ⟨rfl,trivial⟩) ?_;rintro⟨i,w⟩ ⟨H,E,g,m,v⟩;dsimp only at H E g m v ⊢;refine k2 (k2 ?_);refine A7 (A6 (A8 Z Z) Z (A6 (F2 Z Z) Z (B0 ?_)));refine k1 ?_;refine B8 rfl (fun B=>?_) (fun B=>?_);rotate_left
 ·refine k6 (k2 ?_);refine A7 (A6 (A8 Z Z) Z (A6 (A9 Z Z) Z (B0 ?_)));refine k1 (G5 ?_);exact C0 (rs:=[cE w]) (H6 rfl rfl rfl) ⟨w,rfl,⟨by omega,g⟩,m.trans (List.take_sublist _ _),fun f q=>Nat.le_trans List.count_le_length (g f q).2,v⟩
 have y:i<4:=by have C:=A0 B;(try dsimp only at C);omega
 obtain⟨F,z,D⟩:=name4 i y;have A:names4.take (i+1)=names4.take i++[F]:=EB (by rw[<-z,A36]);refine k5 (k1 (k2 (k3 (k2 ?_))));refine A7 (A6 (A8 Z Z) Z (A6 (A8 Z Z) Z (A6 (A8 Z Z) Z (A6 (C9 Z Z (by omega)) Z (C4 (eE j (k+(i:Int)) (by omega) (by omega)) Z Z Z ?_)))));rintro _ rfl;refine A6 (lW Z Z (by omega)) Z (A6 (P8 Z Z) Z (B0 ?_));refine k1 ?_;refine B8 rfl (fun B=>?_) (fun B=>?_)
 ·have G:=KY j (k+10+20*(i:Int)) d 4 C.1;skip;refine D8 (by kernel_rfl) (by kernel_rfl) (B3 (A8 Z Z) Z Z (B3 (A8 Z Z) Z Z (B3 (A8 Z Z) Z Z (B3 (C1 Z (.pure _ _ _ _) Z (by omega) z) Z Z (B3 (D1 Z Z) Z Z (B3 (A8 Z Z) Z Z (B3 (A8 Z Z) Z Z (B3 (C9 Z Z (by omega)) Z Z (B3 (A8 Z Z) Z Z (B3 (dV Z Z (by omega)) Z Z (B3 (C9 Z Z (by omega)) Z Z (B3 (A8 Z Z) Z Z (B3 (H4 (XJ j (k+10+20*(i:Int)) d 4 (by omega) (by omega) (by omega)) Z Z) Z Z (B3 (F8 Z) Z Z (B3 (E0 (c:=l9) (ys:=[⟨F,gW j (k+10+20*(i:Int)) d 4⟩]) (D9 Z Z Z Z H2) Z Z Z) Z Z (KG (L1 Z Z Z (.pure _ _ _ _) (by (simp only[A34,A38];omega)) Z) Z Z (B3 (A9 Z Z) Z Z (J8 ?_))))))))))))))))));refine k4 (k1 ?_);refine A7 (A6 (A8 Z Z) Z (A6 (C9 Z Z (by omega)) Z (A6 (A9 Z Z) Z (B0 ?_))));refine k1 ?_;refine⟨(i+1,w++[⟨F,gW j (k+10+20*(i:Int)) d 4⟩]),⟨y,by rw[A35,List.length_singleton];omega,fun f q=>?_,by dsimp only;rw[A,A63];exact m.append (List.Sublist.refl _),fun f q=>?_⟩,by dsimp only;omega,(Sees.of ⟨B5 rfl,B5 rfl,B5 rfl,B5 rfl,B5 rfl,B5 rfl,trivial⟩ ⟨rfl,trivial⟩)⟩
  ·rcases A40.1 q with q | q
   ·exact g f q
   ·rw[List.mem_singleton.1 q];exact⟨D,by dsimp only;omega⟩
  ·rcases A40.1 q with q | q
   ·exact v f q
   ·rw[List.mem_singleton.1 q];exact MQ _ _ _ _
 ·refine k5 (k4 (k1 ?_));refine A7 (A6 (A8 Z Z) Z (A6 (C9 Z Z (by omega)) Z (A6 (A9 Z Z) Z (B0 ?_))));refine k1 ?_;exact⟨(i+1,w),⟨y,by dsimp only;omega,g,by dsimp only;rw[A];exact m.trans (List.sublist_append_left _ _),v⟩,by dsimp only;omega,(Sees.of ⟨B5 rfl,B5 rfl,B5 rfl,B5 rfl,B5 rfl,B5 rfl,trivial⟩ ⟨rfl,trivial⟩)⟩
theorem MR(l:List File)(g:List Int)(k j:Int)(B L:Nat)(O:GF B l)(J:GN L l)(hL:32<=L)(hB:B<=3000000)(R:0<=k/\k<=1000000)(I:0<=j/\j<=16):FnOk Tryz.prog 16 [cE l,O1 g,E2 k,E2 j] (fun rs=>∃E,rs=[cE E]/\GF (5*B+64) E/\GN (2*L+1) E):=by
 have W:=O.len;refine FnOk.intro Tryz.func16 (by decide) Z Z Z Z ?_;refine k2 ?_;refine A7 (A6 (A9 Z Z) Z (B0 ?_));refine k1 (k2 ?_);refine A7 (D2 (r5 9 _ l9 Z) Z (B0 ?_));refine k1 (k2 ?_);refine A7 (A6 (A8 Z Z) Z (A6 (A8 Z Z) Z (A6 (C9 Z Z (by omega)) Z (C4 (eE g (k+3) (by omega) (by omega)) Z Z Z ?_))));rintro _ rfl;refine C4 (gU (o8 g (k+3)) 4 (by omega) (by omega)) Z Z Z ?_;rintro _ rfl;refine A6 (A9 Z Z) Z (B0 ?_);obtain⟨m,Y⟩:∃m,m=W8 (o8 g (k+3)) 4:=⟨_,rfl⟩
 rw[<-Y];refine k1 (k2 (k2 ?_));refine A7 (A6 (A9 Z Z) Z (B0 ?_));refine k1 (k3 ?_);refine E3 (X:=Nat×List File) (fun x=>([(0,D7 File 2 l9 l),(1,D7 Int 1 H1 g),(2,C7 k),(3,C7 j),(9,.s (.one (.buf 9 File 2 l9 x.2))),(10,C7 m),(11,C7 x.1)],[(9,.spare x.2.length 2 60)])) (fun x=>x.1<=l.length/\x.2.length<=x.1/\(∀f∈x.2,f.Path.length<=3/\f.Blob.length<=5*B+64)/\(x.2.map (·.Path)).Sublist ((l.take x.1).map (·.Path))/\(∀f∈x.2,f.Blob.count 10<=2*L+1)/\∀f∈x.2,NoDig f.Blob) (fun x=>l.length-x.1) (0,[]) ⟨Nat.zero_le _,Nat.le_refl _,(fun _ h=>by cases h),List.Sublist.refl [],(fun _ h=>by cases h),(fun _ h=>by cases h)⟩ (Sees.of ⟨B5 rfl,B5 rfl,B5 rfl,B5 rfl,B5 rfl,B5 rfl,B5 rfl,trivial⟩ ⟨rfl,trivial⟩) ?_;rintro⟨i,A⟩ ⟨V,N,q,v,y,z⟩;dsimp only at V N q v y z ⊢;refine k2 (k2 ?_);refine A7 (A6 (A8 Z Z) Z (A6 (A8 Z Z) Z (A6 (F0 Z (.pure _ _ _ _)) Z (A6 (F2 Z Z) Z (B0 ?_)))));refine k1 ?_;refine B8 rfl (fun C=>?_) (fun C=>?_);rotate_left
 ·refine k6 (k2 (k2 ?_));refine A7 (A6 (A8 Z Z) Z (A6 (F0 Z (.buf _ _ _ _ _)) Z (A6 (I3 Z Z) Z (B0 ?_))));refine k1 ?_;refine B8 rfl (fun C=>?_) (fun C=>?_)
  ·refine k2 ?_;refine A7 (A6 (A8 Z Z) Z (A6 (A8 Z Z) Z (A6 (A8 Z Z) Z (C4 (BK g k j R I) Z Z Z ?_))));rintro _ ⟨E,rfl,K,M⟩;refine A6 (A9 Z Z) Z (B0 ?_);refine k1 (G5 (I2 ?_));exact C0 (rs:=[cE E]) (H6 rfl rfl rfl) ⟨E,rfl,K.mono (by omega),M.mono (by omega)⟩
  ·refine k5 (k1 (k2 ?_));refine A7 (A6 (A8 Z Z) Z (A6 (A9 Z Z) Z (B0 ?_)));refine k1 (G5 ?_);exact C0 (rs:=[cE A]) (H6 rfl rfl rfl) ⟨A,rfl,⟨by omega,q⟩,(v.trans ((List.take_sublist _ _).map _)).trans J.sub,y,z⟩
 have w:i<l.length:=by have I:=A0 C;(try dsimp only at I);omega
 obtain⟨f,H⟩:∃f,f=l[i]:=⟨_,rfl⟩
 have Q:l[i]?=some f:=by rw[H];simp[w]
 obtain⟨G,T⟩:=O.all f (by rw[H];exact A37 w);have ac:=MN f.Blob g (k+7);have ab:=MO f.Blob g (k+7);have U:=J.cnt f (by rw[H];exact A37 w);have F:=J.dig f (by rw[H];exact A37 w);have D:(l.take (i+1)).map (·.Path)=(l.take i).map (·.Path)++[f.Path]:=by rw[EB Q,A63];rfl
 refine k5 (k1 (k2 (k3 (k2 ?_))));refine A7 (A6 (A8 Z Z) Z (A6 (A8 Z Z) Z (A6 (C1 Z (.pure _ _ _ _) Z (by omega) Q) Z (A6 (E5 Z Z) Z (D2 (G3 12 Z) Z (F4 (C2 TySz.out Z Z Z Z Z Z) (B0 ?_)))))));refine k1 (k2 (k2 ?_));refine A7 (A6 (A8 Z Z) Z (A6 (A8 Z Z) Z (A6 (I3 Z Z) Z (B0 ?_))));refine k1 ?_;refine B8 rfl (fun C=>?_) (fun C=>?_)
 ·refine k2 ?_;refine A7 (A6 (B1 Z) Z (A6 (B2 Z Z Z) Z (A6 (A8 Z Z) Z (A6 (A8 Z Z) Z (A6 (C9 Z Z (by omega)) Z (C4 (XK f.Blob g (k+7) (by omega) (by omega)) Z Z Z ?_))))));rintro _ rfl;refine A6 (B1 Z) Z (F4 (C2 TySz.out Z Z Z Z Z Z) (B0 ?_));refine k1 (k2 ?_);refine A7 (A6 (A8 Z Z) Z (A6 (A8 Z Z) Z (A6 (C9 Z Z (by omega)) Z (C4 (eE g (k+5) (by omega) (by omega)) Z Z Z ?_))));rintro _ rfl;refine A6 (lW Z Z (by omega)) Z (A6 (I3 Z Z) Z (B0 ?_));refine k1 ?_;refine B8 rfl (fun C=>?_) (fun C=>?_)
  ·refine k6 (k7 (k8 Z (k1 ?_)));refine A7 (A6 (A8 Z Z) Z (A6 (C9 Z Z (by omega)) Z (A6 (A9 Z Z) Z (B0 ?_))));refine k1 ?_;exact⟨(i+1,A),⟨w,by dsimp only;omega,q,by dsimp only;rw[D];exact v.trans (List.sublist_append_left _ _),y,z⟩,by dsimp only;omega,(Sees.of ⟨B5 rfl,B5 rfl,B5 rfl,B5 rfl,B5 rfl,B5 rfl,B5 rfl,trivial⟩ ⟨rfl,trivial⟩)⟩
  ·refine k5 (k1 ?_);refine A7 (A6 (A8 Z Z) Z (A6 (E7 Z Z Z) Z (A6 (E0 (c:=l9) (ys:=[⟨f.Path,fA f.Blob g (k+7)⟩]) (D9 Z Z Z Z H2) Z Z Z) Z (D2 (L1 Z Z Z (.pure _ _ _ _) (by (simp only[A34,A38];omega)) Z) Z (A6 (A9 Z Z) Z (B0 ?_))))));refine k4 (k1 ?_);refine A7 (A6 (A8 Z Z) Z (A6 (C9 Z Z (by omega)) Z (A6 (A9 Z Z) Z (B0 ?_))));refine k1 ?_;refine⟨(i+1,A++[⟨f.Path,fA f.Blob g (k+7)⟩]),⟨w,by rw[A35,List.length_singleton];omega,fun x d=>?_,by dsimp only;rw[D,A63];exact v.append (List.Sublist.refl _),fun x d=>?_,fun x d=>?_⟩,by dsimp only;omega,(Sees.of ⟨B5 rfl,B5 rfl,B5 rfl,B5 rfl,B5 rfl,B5 rfl,B5 rfl,trivial⟩ ⟨rfl,trivial⟩)⟩
   ·rcases A40.1 d with d | d
    ·exact q x d
    ·rw[List.mem_singleton.1 d];exact⟨G,by dsimp only;omega⟩
   ·rcases A40.1 d with d | d
    ·exact y x d
    ·rw[List.mem_singleton.1 d];dsimp only;omega
   ·rcases A40.1 d with d | d
    ·exact z x d
    ·rw[List.mem_singleton.1 d];exact MP F g (k+7)
 ·refine k5 (k1 ?_);refine A7 (A6 (A8 Z Z) Z (A6 (E7 Z Z Z) Z (A6 (E0 (c:=l9) (ys:=[f]) (D9 Z Z Z Z H2) Z Z Z) Z (D2 (L1 Z Z Z (.pure _ _ _ _) (by (simp only[A34,A38];omega)) Z) Z (A6 (A9 Z Z) Z (B0 ?_))))));refine k4 (k1 ?_);refine A7 (A6 (A8 Z Z) Z (A6 (C9 Z Z (by omega)) Z (A6 (A9 Z Z) Z (B0 ?_))));refine k1 ?_;refine⟨(i+1,A++[f]),⟨w,by rw[A35,List.length_singleton];omega,fun x d=>?_,by dsimp only;rw[D,A63];exact v.append (List.Sublist.refl _),fun x d=>?_,fun x d=>?_⟩,by dsimp only;omega,(Sees.of ⟨B5 rfl,B5 rfl,B5 rfl,B5 rfl,B5 rfl,B5 rfl,B5 rfl,trivial⟩ ⟨rfl,trivial⟩)⟩
  ·rcases A40.1 d with d | d
   ·exact q x d
   ·rw[List.mem_singleton.1 d];exact⟨G,by omega⟩
  ·rcases A40.1 d with d | d
   ·exact y x d
   ·rw[List.mem_singleton.1 d];omega
  ·rcases A40.1 d with d | d
   ·exact z x d
   ·rw[List.mem_singleton.1 d];exact F
structure GG (B:Nat) (g:Graph):Prop where
 len:g.length<=16
 pars:∀c∈g,c.Parents.length<=3/\∀p∈c.Parents,0<=p/\p<(g.length:Int)
 files:∀c∈g,GF B c.Files
theorem GG.few{B:Nat}{g:Graph}(h:GG B g)(b:B<=16777216):FewT g :=
 ⟨⟨by have:=h.len;omega,fun c a=>by have:=(h.pars c a).1;omega⟩,fun c a=>(h.files c a).few b⟩
theorem GG.short{B:Nat}{g:Graph}(h:GG B g):Short g:=fun c=>by
 unfold N9;by_cases a:c<g.length
 ·rw[A32 a];have:=(h.files _ (A37 a)).len;show g[c].Files.length<=6;omega
 ·rw[A52 (by omega)];simp
structure GU (L:Nat) (g:Graph):Prop where
 up:∀c p:Nat,(p:Int)∈F1 g c->p<c
 nice:∀c∈g,c.Parents.Nodup/\0<=c.Date/\c.Date<=5
 tree:∀c∈g,GN L c.Files
theorem GU.valid{B L:Nat}{g:Graph}(h:GG B g)(p:B<=1048576)(d:L<=2111)(k:OneWay g)(i:∀c∈g,c.Parents.Nodup/\0<=c.Date/\c.Date<=5)(j:∀c∈g,GN L c.Files):GV g where
 len:=h.len
 pars:=fun c b=>⟨(h.pars c b).1,(h.pars c b).2,i c b⟩
 way:=k
 files:=fun c b=>⟨(j c b).mono d,fun f e=>by have:=((h.files c b).all f e).2;omega⟩
theorem MS{g:Graph}{k:Nat}{x:Commit}(j:Nat){p:Int}(h:p∈F1 (g.set k x) j):(j=k/\p∈x.Parents)\/p∈F1 g j:=by
 unfold F1 at h ⊢;rw[List.getElem?_set]at h;split at h
 ·rename_i e;split at h
  ·exact .inl ⟨e.symm,h⟩
  ·cases h
 ·exact .inr h
theorem MT(n:Int){l:List Int}(h:l.Nodup):(l.map fun q=>n-1-q).Nodup:=by
 rw[List.nodup_iff_pairwise_ne,List.pairwise_map];exact h.imp fun {a b} c e=>c (by omega)
theorem MU(g:Graph)(U:List Int)(B L:Nat)(S:GG B g)(P:GU L g)(hB:B<=1048576)(hL:L<=2111):FnOk Tryz.prog 17 [I1 g,O1 U] (fun rs=>∃W,rs=[I1 W]/\GG B W/\GV W):=by
 have ag:=S.len;refine FnOk.intro Tryz.func17 (by decide) Z Z Z Z ?_;refine k2 ?_;refine A7 (A6 (A9 Z Z) Z (B0 ?_));refine k1 (k2 (k2 ?_));refine A7 (A6 (A8 Z Z) Z (C4 (eE U 3 (by omega) (by omega)) Z Z Z ?_));rintro _ rfl;refine A6 (lW Z Z (by omega)) Z (A6 (I3 Z Z) Z (B0 ?_));refine k1 ?_;refine B8 rfl (fun J=>?_) (fun J=>?_)
 ·refine k2 ?_;refine A7 (A6 (A8 Z Z) Z (A6 (A9 Z Z) Z (B0 ?_)));refine k1 (G5 (I2 ?_));exact C0 (rs:=[I1 g]) (H6 rfl rfl rfl) ⟨g,rfl,S,GU.valid S hB hL (.inl P.up) P.nice P.tree⟩
 refine k5 (k1 (k2 ?_));refine A7 (A6 (A8 Z Z) Z (A6 (F0 Z (.pure _ _ _ _)) Z (A6 (A9 Z Z) Z (B0 ?_))));refine k1 (k2 ?_);refine A7 (A6 (A8 Z Z) Z (D2 (gO 760 Commit J3 ⟨[],0,[]⟩ Z Z (by omega) (by omega) (fun _=>by first | exact⟨⟨rfl,rfl⟩,trivial⟩ | exact⟨J5 _ _ _,trivial⟩ | exact⟨J5 _ _ _,⟨rfl,rfl⟩,J5 _ _ _,trivial⟩ | exact⟨⟨rfl,rfl⟩,⟨rfl,rfl⟩,trivial⟩) (by first | rfl | (simp[H9,N6,Ob.free,SV.free,S1.free,TC.free]<;>rfl))) Z ?_));refine A6 (A9 Z Z) Z (B0 ?_);rw[A36];refine k1 (k2 (k2 ?_));refine A7 (A6 (A9 Z Z) Z (B0 ?_));refine k1 (k3 ?_)
 refine E3 (X:=Nat×List Commit) (fun x=>([(0,D7 Commit 3 J3 g),(5,C7 g.length),(6,.s (.one (.mut 760))),(7,C7 x.1)],[(760,.arr Commit 3 J3 x.2)])) (fun x=>x.1<=g.length/\x.2.length=g.length/\(∀y∈x.2,y.Parents.length<=3/\∀p∈y.Parents,0<=p/\p<(g.length:Int))/\(∀y∈x.2,GF B y.Files)/\(∀y∈x.2,(y.Parents.Nodup/\0<=y.Date/\y.Date<=5)/\GN L y.Files)/\∀j p:Nat,(p:Int)∈F1 x.2 j->j<p) (fun x=>g.length-x.1) (0,List.replicate g.length ⟨[],0,[]⟩) ⟨Nat.zero_le _,A73,fun y w=>by rw[(List.mem_replicate.1 w).2];exact⟨by simp,fun p hp=>by cases hp⟩,fun y w=>by rw[(List.mem_replicate.1 w).2];exact⟨by simp,fun f R=>by cases R⟩,fun y w=>by rw[(List.mem_replicate.1 w).2];exact⟨⟨List.nodup_nil,by decide,by decide⟩,List.nil_sublist _,(fun f R=>by cases R),fun f R=>by cases R⟩,fun j p h=>by
  unfold F1 at h;rw[List.getElem?_replicate]at h
  split at h<;>cases h⟩ (Sees.of ⟨B5 rfl,B5 rfl,B5 rfl,B5 rfl,trivial⟩ ⟨rfl,trivial⟩) ?_
 rintro⟨c,o⟩ ⟨hc,F,H,E,G,M⟩;dsimp only at hc F H E G M ⊢;refine k2 (k2 ?_);refine A7 (A6 (A8 Z Z) Z (A6 (A8 Z Z) Z (A6 (F2 Z Z) Z (B0 ?_))));refine k1 ?_;refine B8 rfl (fun J=>?_) (fun J=>?_);rotate_left
 ·refine k6 (k2 ?_);refine G8 (Sees.freeze (k:=760) Z) ?_;refine A7 (A6 (A8 Z Z) Z (A6 (A9 Z Z) Z (B0 ?_)));refine k1 (G5 ?_);exact C0 (rs:=[I1 o]) (H6 rfl rfl rfl) ⟨o,rfl,⟨by omega,by rw[F];exact H,E⟩,GU.valid (B:=B) ⟨by omega,by rw[F];exact H,E⟩ hB hL (.inr M) (fun y w=>(G y w).1) fun y w=>(G y w).2⟩
 have D:c<g.length:=by have z:=A0 J;(try dsimp only at z);omega
 obtain⟨d,K⟩:∃d,d=g[c]:=⟨_,rfl⟩
 have hv:g[c]?=some d:=by rw[K];simp[D]
 have V:d∈g:=by rw[K];exact A37 D
 obtain⟨ah,hpr⟩:=S.pars d V;have Y:=S.files d V;have Q:=P.nice d V;have ab:=P.tree d V;have ac:∀q∈d.Parents,q<(c:Int):=fun q C=>by
  have z:=P.up c q.toNat (by rw[gK D,<-K,Int.toNat_of_nonneg (hpr q C).1];exact C)
  have:=(hpr q C).1;omega
 refine k5 (k1 (k2 (k3 (k2 ?_))));refine A7 (A6 (A8 Z Z) Z (A6 (A8 Z Z) Z (A6 (C1 Z (.pure _ _ _ _) Z (by omega) hv) Z (A6 (E5 Z Z) Z (D2 (G3 8 Z) Z (F4 (C2 TySz.out Z Z Z Z Z Z) (B0 ?_)))))));refine k1 (k2 ?_);refine A7 (A6 (B1 Z) Z (F4 (C2 TySz.out Z Z Z Z Z Z) (B0 ?_)));refine k1 (k2 (k2 ?_));refine G8 (A06 753 Int 1 H1 3 (kb:=8) (o:=0) Z Z Z) ?_;refine A7 (A6 (A9 Z Z) Z (B0 ?_));refine k1 (k3 ?_);refine E3 (X:=Nat×List Int) (fun x=>([(0,D7 Commit 3 J3 g),(5,C7 g.length),(6,.s (.one (.mut 760))),(7,C7 c),(8,.s (.one (.ref 8 0))),(9,C7 x.1)],[(8,.box [.buf 753 Int 1 H1 x.2,.p (.v (.int .i64 d.Date)),.p (.list File 2 l9 d.Files)]),(753,.spare x.2.length 1 3),(760,.arr Commit 3 J3 o)])) (fun x=>x.1<=d.Parents.length/\x.2=(d.Parents.take x.1).map fun q=>(g.length:Int)-1-q) (fun x=>d.Parents.length-x.1) (0,[]) ⟨Nat.zero_le _,rfl⟩ (Sees.of ⟨B5 rfl,B5 rfl,B5 rfl,B5 rfl,B5 rfl,B5 rfl,trivial⟩ ⟨rfl,rfl,rfl,trivial⟩) ?_;rintro⟨p,ps⟩ ⟨hp,I⟩;dsimp only at hp I ⊢;have ai:ps.length=p:=by rw[I,A67,A42];omega
 refine k2 (k2 ?_);refine A7 (A6 (A8 Z Z) Z (A6 (A8 Z Z) Z (A6 (A8 Z Z) Z (A6 (C1 Z (.pure _ _ _ _) Z (by omega) hv) Z (A6 (L7 Z) Z (A6 (D1 Z Z) Z (A6 (F0 Z (.pure _ _ _ _)) Z (A6 (F2 Z Z) Z (B0 ?_)))))))));refine k1 ?_;refine B8 rfl (fun J=>?_) (fun J=>?_)
 ·have A:p<d.Parents.length:=by have z:=A0 J;(try dsimp only at z);omega
  obtain⟨q,C⟩:∃q,q=d.Parents[p]:=⟨_,rfl⟩
  have T:d.Parents[p]?=some q:=by rw[C];simp[A]
  have aj:=hpr q (by rw[C];exact A37 A);refine k5 (k1 (k2 (k3 ?_)));refine D8 (by kernel_rfl) (by kernel_rfl) (B3 (B1 Z) Z Z (B3 (B2 Z Z Z) Z Z (B3 (A8 Z Z) Z Z (B3 (K3 Z Z (by omega)) Z Z (B3 (A8 Z Z) Z Z (B3 (A8 Z Z) Z Z (B3 (C1 Z (.pure _ _ _ _) Z (by omega) hv) Z Z (B3 (L7 Z) Z Z (B3 (D1 Z Z) Z Z (B3 (A8 Z Z) Z Z (B3 (C1 Z (.pure _ _ _ _) Z (by omega) T) Z Z (B3 (D1 Z Z) Z Z (B3 (K3 Z Z (by omega)) Z Z (B3 (E0 (c:=H1) (ys:=[(g.length:Int)-1-q]) (D9 Z Z Z Z H2) Z Z Z) Z Z (KG (L1 Z Z Z (.pure _ _ _ _) (by (simp only[A34,A38];omega)) Z) Z Z (B3 (B1 Z) Z Z (lZ (C2 TySz.out Z Z Z Z Z Z) Z (J8 ?_))))))))))))))))));refine k4 (k1 ?_);refine A7 (A6 (A8 Z Z) Z (A6 (C9 Z Z (by omega)) Z (A6 (A9 Z Z) Z (B0 ?_))));refine k1 ?_;refine⟨(p+1,ps++[(g.length:Int)-1-q]),⟨A,by dsimp only;rw[EB T,A63,<-I];rfl⟩,by dsimp only;omega,(Sees.of ⟨B5 rfl,B5 rfl,B5 rfl,B5 rfl,B5 rfl,B5 rfl,trivial⟩ ⟨rfl,rfl,rfl,trivial⟩)⟩
 have af:¬(p:Int)<d.Parents.length:=A1 J;have O:ps=d.Parents.map fun q=>(g.length:Int)-1-q:=by rw[I,A64 (by omega)]
 have ad:∀x∈ps,0<=x/\x<(g.length:Int):=fun x hx=>by
  rw[O]at hx;obtain⟨q,C,rfl⟩:=A65.1 hx;have:=hpr q C;omega
 have hi:0<=(g.length:Int)-1-c/\(g.length:Int)-1-c<o.length:=by omega
 have ae:o[((g.length:Int)-1-c).toNat]?=some o[((g.length:Int)-1-c).toNat]:=A32 (by omega);refine k6 (k7 (k7 (k8 Z (k1 ?_))));refine A7 (A6 (A8 Z Z) Z (A6 (A8 Z Z) Z (A6 (K3 Z Z (by omega)) Z (A6 (A8 Z Z) Z (A6 (K3 Z Z (by omega)) Z (A6 (E7 Z Z Z) Z (A6 (I5 Z Z Z (by omega) (by omega)) Z (F4 (oD (y:=⟨ps,d.Date,d.Files⟩) TySz.out Z Z ae Z Z Z Z (fun _ _ us h=>by first | exact bP h | (match us,h with | [_,_,_],h=>exact⟨h.1.2,h.2.1,h.2.2.1,trivial⟩)) (by intro j z h2;rcases j with _ | _ | _ | j<;>first | rfl | omega)) ?_))))))));refine B0 ?_;refine k4 (k1 ?_);refine A7 (A6 (A8 Z Z) Z (A6 (C9 Z Z (by omega)) Z (A6 (A9 Z Z) Z (B0 ?_))));refine k1 ?_;refine⟨(c+1,o.set ((g.length:Int)-1-c).toNat ⟨ps,d.Date,d.Files⟩),⟨D,by dsimp only;rw[A74];exact F,fun y w=>?_,fun y w=>?_,fun y w=>?_,fun j p hj=>?_⟩,by dsimp only;omega,(Sees.of ⟨B5 rfl,B5 rfl,B5 rfl,B5 rfl,trivial⟩ ⟨rfl,trivial⟩)⟩
 ·rcases List.mem_or_eq_of_mem_set w with w | rfl
  ·exact H y w
  ·exact⟨by dsimp only;omega,ad⟩
 ·rcases List.mem_or_eq_of_mem_set w with w | rfl
  ·exact E y w
  ·exact Y
 ·rcases List.mem_or_eq_of_mem_set w with w | rfl
  ·exact G y w
  ·exact⟨⟨by rw[O];exact MT _ Q.1,Q.2⟩,ab⟩
 ·rcases MS j hj with ⟨e,z⟩ | z
  ·dsimp only at z;rw[O]at z;obtain⟨q,C,e2⟩:=A65.1 z;have:=ac q C;omega
  ·exact M j p z
set_option maxHeartbeats 2000000
def wM:Nat->Nat
 | 0=>0
 | c+1=>5*wM c+64
def tP:Nat->Nat
 | 0=>32
 | c+1=>2*tP c+1
theorem XW(c:Nat)(h:c<=6):(32<=tP c/\wM c<=250000)/\tP c<=2111:=by
 match c,h with
 | 0,_=>decide
 | 1,_=>decide
 | 2,_=>decide
 | 3,_=>decide
 | 4,_=>decide
 | 5,_=>decide
 | 6,_=>decide
theorem GG.mono{B B':Nat}{g:Graph}(h:GG B g)(a:B<=B'):GG B' g:=⟨h.len,h.pars,fun c b=>(h.files c b).mono a⟩
theorem RO(w:List Int)(n z:Int)(hn:0<=n/\n<=6)(hl:0<=z/\z<=16):FnOk Tryz.prog 5 [O1 w,E2 n,E2 z] (fun rs=>∃g,rs=[I1 g]/\GG 250000 g/\GV g):=by
 have au:=Y8 (o8 w 0) (n:=n+1) (by omega);obtain⟨m,hm⟩:∃m:Nat,W8 (o8 w 0) (n+1)=(m:Int):=⟨(W8 (o8 w 0) (n+1)).toNat,by omega⟩
 have ar:m<=6:=by omega
 refine FnOk.intro Tryz.func5 (by decide) Z Z Z Z ?_;refine k2 ?_;refine A7 (A6 (A9 Z Z) Z (B0 ?_));refine k1 (k2 ?_);refine A7 (A6 (A8 Z Z) Z (C4 (eE w 0 (by omega) (by omega)) Z Z Z ?_));rintro _ rfl;refine A6 (A8 Z Z) Z (A6 (C9 Z Z (by omega)) Z (C4 (gU (o8 w 0) (n+1) (by omega) (by omega)) Z Z Z ?_));rintro _ rfl;refine A6 (A9 Z Z) Z (B0 ?_);rw[hm];refine k1 (k2 ?_);refine A7 (D2 (KH 7 (c:=J3) (ys:=([]:List Commit)) H2 Z Z Z (by first | rfl | (simp[H9,N6,Ob.free,SV.free,S1.free,TC.free]<;>rfl))) Z ?_);refine A6 (A9 Z Z) Z (B0 ?_);refine k1 (k2 (k2 ?_));refine A7 (A6 (A9 Z Z) Z (B0 ?_));refine k1 (k3 ?_);refine E3 (X:=Nat×List Commit) (fun x=>([(0,D7 Int 1 H1 w),(1,C7 m),(2,C7 z),(7,.s (.one (.buf 7 Commit 3 J3 x.2))),(8,C7 x.1)],[(7,.spare x.2.length 3 34)])) (fun x=>x.1<=m/\x.2.length=x.1/\(∀y∈x.2,y.Parents.length<=3/\∀p∈y.Parents,0<=p/\p<(x.1:Int))/\(∀y∈x.2,GF (wM x.1) y.Files)/\GU (tP x.1) x.2) (fun x=>m-x.1) (0,[]) ⟨Nat.zero_le _,rfl,(fun _ h=>by cases h),(fun _ h=>by cases h),(fun _ _ h=>by cases h),(fun _ h=>by cases h),(fun _ h=>by cases h)⟩ (Sees.of ⟨B5 rfl,B5 rfl,B5 rfl,B5 rfl,B5 rfl,trivial⟩ ⟨rfl,trivial⟩) ?_;rintro⟨c,E⟩ ⟨hc,P,I,H,D⟩;dsimp only at hc P I H D ⊢;obtain⟨⟨ac,aq⟩,ad⟩:=XW c (by omega);refine k2 (k2 ?_);refine A7 (A6 (A8 Z Z) Z (A6 (A8 Z Z) Z (A6 (F2 Z Z) Z (B0 ?_))));refine k1 ?_;refine B8 rfl (fun B=>?_) (fun B=>?_);rotate_left
 ·refine k6 (k2 ?_);refine A7 (A6 (A8 Z Z) Z (A6 (A8 Z Z) Z (C4 (MU E w (wM c) (tP c) ⟨by omega,by rw[P];exact I,H⟩ D (by omega) ad) Z Z Z ?_)));rintro _ ⟨g',rfl,ak,ao⟩;refine A6 (A9 Z Z) Z (B0 ?_);refine k1 (G5 ?_);exact C0 (rs:=[I1 g']) (H6 rfl rfl rfl) ⟨g',rfl,GG.mono ak (by omega),ao⟩
 have al:c<m:=by have J:=A0 B;(try dsimp only at J);omega
 refine k5 (k1 (k2 (k3 (k2 ?_))));refine A7 (A6 (A8 Z Z) Z (A6 (A8 Z Z) Z (A6 (C9 Z Z (by omega)) Z (C4 (eE w (1000+(c:Int)) (by omega) (by omega)) Z Z Z ?_))));rintro _ rfl;refine C4 (gU (o8 w (1000+(c:Int))) 5 (by omega) (by omega)) Z Z Z ?_;rintro _ rfl;refine A6 (F8 Z) Z (D2 (G3 9 Z) Z (F4 (C2 TySz.out Z Z Z Z Z Z) (B0 ?_)));have ag:=Y8 (o8 w (1000+(c:Int))) (n:=5) (by omega);obtain⟨d,hd⟩:∃d,d=W8 (o8 w (1000+(c:Int))) 5:=⟨_,rfl⟩
 rw[<-hd]at ag ⊢;refine k1 (k2 (k2 ?_));refine G8 (A06 753 Int 1 H1 3 (kb:=9) (o:=0) Z Z Z) ?_;refine A7 (A6 (A9 Z Z) Z (B0 ?_));refine k1 (k3 ?_);refine E3 (X:=Nat×List Int) (fun x=>([(0,D7 Int 1 H1 w),(1,C7 m),(2,C7 z),(7,.s (.one (.buf 7 Commit 3 J3 E))),(8,C7 c),(9,.s (.one (.ref 9 0))),(10,C7 x.1)],[(7,.spare E.length 3 34),(9,.box [.buf 753 Int 1 H1 x.2,.p (.v (.int .i64 d)),.p (.v (.slice none 0 0))]),(753,.spare x.2.length 1 3)])) (fun x=>x.1<=c/\x.2.length<=3/\(∀q∈x.2,0<=q/\q<(x.1:Int))/\x.2.Nodup) (fun x=>c-x.1) (0,[]) ⟨Nat.zero_le _,by simp,(fun _ h=>by cases h),List.nodup_nil⟩ (Sees.of ⟨B5 rfl,B5 rfl,B5 rfl,B5 rfl,B5 rfl,B5 rfl,B5 rfl,trivial⟩ ⟨rfl,rfl,rfl,trivial⟩) ?_;rintro⟨p,ps⟩ ⟨hp,Q,F,hpn⟩;dsimp only at hp Q F hpn ⊢;refine k2 (k2 ?_);refine A7 (A6 (A8 Z Z) Z (A6 (A8 Z Z) Z (A6 (F2 Z Z) Z (B0 ?_))));refine k1 ?_;refine B8 rfl (fun B=>?_) (fun B=>?_)
 ·have L:p<c:=by have J:=A0 B;(try dsimp only at J);omega
  refine k5 (k1 (k2 (k3 (k2 ?_))));refine A7 (A6 (A8 Z Z) Z (A6 (A8 Z Z) Z (A6 (dV Z Z (by omega)) Z (A6 (C9 Z Z (by omega)) Z (A6 (A8 Z Z) Z (A6 (C9 Z Z (by omega)) Z (C4 (eE w (1100+40*(c:Int)+(p:Int)) (by omega) (by omega)) Z Z Z ?_)))))));rintro _ rfl;refine A6 (lW Z Z (by omega)) Z (A6 (I3 Z Z) Z (A6 (A8 Z Z) Z (B4 Z Z Z Z (fun k=>by rw[k];exact B1 Z) ?_)));refine B4 Z Z Z Z (fun k=>by rw[k];exact B2 Z Z Z) ?_;refine B4 Z Z Z Z (fun k=>by rw[k];exact F0 Z (.buf _ _ _ _ _)) ?_;refine B4 Z Z Z Z (fun k=>by rw[k];exact F2 Z Z) ?_;refine A6 (B9 Z (fun h=>by first | rfl | (rw[h];rfl)) (fun h=>by first | rfl | (rw[h];rfl))) Z ?_;refine B0 ?_;refine k1 ?_;refine B8 rfl (fun B=>?_) (fun B=>?_)
  ·have h2:=(A0 (and_pick.symm.trans B)).2;skip;refine A7 (A6 (B1 Z) Z (A6 (B2 Z Z Z) Z (A6 (A8 Z Z) Z (A6 (E0 (c:=H1) (ys:=[(p:Int)]) (D9 Z Z Z Z H2) Z Z Z) Z (D2 (L1 Z Z Z (.pure _ _ _ _) (by (simp only[A34,A38];omega)) Z) Z (A6 (B1 Z) Z (F4 (C2 TySz.out Z Z Z Z Z Z) (B0 ?_))))))));refine k4 (k1 ?_);refine A7 (A6 (A8 Z Z) Z (A6 (C9 Z Z (by omega)) Z (A6 (A9 Z Z) Z (B0 ?_))));refine k1 ?_;refine⟨(p+1,ps++[(p:Int)]),⟨L,by rw[A35,List.length_singleton];omega,fun x T=>?_,?_⟩,by dsimp only;omega,(Sees.of ⟨B5 rfl,B5 rfl,B5 rfl,B5 rfl,B5 rfl,B5 rfl,B5 rfl,trivial⟩ ⟨rfl,rfl,rfl,trivial⟩)⟩
   ·rcases A40.1 T with T | T
    ·have:=F x T;dsimp only;omega
    ·rw[List.mem_singleton.1 T];dsimp only;omega
   ·dsimp only;refine List.nodup_append.2 ⟨hpn,by simp,fun a ha b hb e=>?_⟩;have:=F a ha;rw[e,List.mem_singleton.1 hb]at this;omega
  ·refine k5 (k4 (k1 ?_));refine A7 (A6 (A8 Z Z) Z (A6 (C9 Z Z (by omega)) Z (A6 (A9 Z Z) Z (B0 ?_))));refine k1 ?_;exact⟨(p+1,ps),⟨L,Q,fun x T=>by have:=F x T;dsimp only;omega,hpn⟩,by dsimp only;omega,(Sees.of ⟨B5 rfl,B5 rfl,B5 rfl,B5 rfl,B5 rfl,B5 rfl,B5 rfl,trivial⟩ ⟨rfl,rfl,rfl,trivial⟩)⟩
 refine k6 (k2 (k2 ?_));refine A7 (A6 (B1 Z) Z (A6 (B2 Z Z Z) Z (A6 (F0 Z (.buf _ _ _ _ _)) Z (A6 (I3 Z Z) Z (A6 (A8 Z Z) Z (B4 Z Z Z Z (fun k=>by rw[k];exact A8 Z Z) ?_))))));refine B4 Z Z Z Z (fun k=>by rw[k];exact P8 Z Z) ?_;refine A6 (B9 Z (fun h=>by first | rfl | (rw[h];rfl)) (fun h=>by first | rfl | (rw[h];rfl))) Z ?_;refine A6 (A8 Z Z) Z (B4 Z Z Z Z (fun k=>by rw[k];exact A8 Z Z) ?_);refine B4 Z Z Z Z (fun k=>by rw[k];exact A8 Z Z) ?_;refine B4 Z Z Z Z (fun k=>by have C:=k;(try simp at C);rw[k];exact C9 Z Z (by omega)) ?_;refine B4 Z Z Z Z (fun k=>by have C:=k;(try simp at C);rw[k];exact H4 (eE w (1500+(c:Int)) (by omega) (by omega)) Z Z) ?_;refine B4 Z Z Z Z (fun k=>by have C:=k;(try simp at C);rw[k];exact lW Z Z (by omega)) ?_;refine B4 Z Z Z Z (fun k=>by rw[k];exact P8 Z Z) ?_;refine A6 (B9 Z (fun h=>by first | rfl | (rw[h];rfl)) (fun h=>by first | rfl | (rw[h];rfl))) Z ?_;refine B0 ?_;refine k1 ?_;refine vS (X:=List Int) (fun G=>([(0,D7 Int 1 H1 w),(1,C7 m),(2,C7 z),(7,.s (.one (.buf 7 Commit 3 J3 E))),(8,C7 c),(9,.s (.one (.ref 9 0)))],[(7,.spare E.length 3 34),(9,.box [.p (.list Int 1 H1 G),.p (.v (.int .i64 d)),.p (.v (.slice none 0 0))])])) (fun G=>G.length<=3/\(∀q∈G,0<=q/\q<(c:Int))/\G.Nodup) ?_ ?_
 ·refine B8 rfl (fun B=>?_) (fun B=>?_)
  ·rw[sS,sS,A33,A33]at B;have h2:=A0 B.1.2;skip;refine A7 (A6 (A8 Z Z) Z (A6 (K3 Z Z (by omega)) Z (A6 (E0 (c:=H1) (ys:=[(c:Int)-1]) (D9 Z Z Z Z H2) Z Z Z) Z (A6 (B1 Z) Z (F4 (C2 TySz.out Z Z Z Z Z Z) (B0 ?_))))));refine k1 ?_;exact⟨[(c:Int)-1],⟨by simp,fun q C=>by rw[List.mem_singleton.1 C];omega,by simp⟩,Sees.trans (A17 9 0 rfl rfl rfl) (Sees.of ⟨B5 rfl,B5 rfl,B5 rfl,B5 rfl,B5 rfl,B5 rfl,trivial⟩ ⟨rfl,rfl,trivial⟩)⟩
  ·refine k5 (k1 ?_);exact⟨ps,⟨Q,fun q C=>by have:=F q C;omega,hpn⟩,Sees.trans (A17 9 0 rfl rfl rfl) (Sees.of ⟨B5 rfl,B5 rfl,B5 rfl,B5 rfl,B5 rfl,B5 rfl,trivial⟩ ⟨rfl,rfl,trivial⟩)⟩
 rintro G ⟨am,S,an⟩;dsimp only;refine k2 ?_;refine A7 (A6 (A8 Z Z) Z (A6 (A8 Z Z) Z (A6 (dV Z Z (by omega)) Z (A6 (C9 Z Z (by omega)) Z (A6 (A8 Z Z) Z (C4 (BK w (2000+200*(c:Int)) z (by omega) hl) Z Z Z ?_))))));rintro _ ⟨fl,rfl,ah,ai⟩;refine A6 (B1 Z) Z (F4 (C2 TySz.out Z Z Z Z Z Z) (B0 ?_));refine k1 (k2 (k2 ?_));refine A7 (A6 (B1 Z) Z (A6 (B2 Z Z Z) Z (A6 (F0 Z (.pure _ _ _ _)) Z (A6 (P8 Z Z) Z (A6 (A8 Z Z) Z (B4 Z Z Z Z (fun k=>by rw[k];exact A8 Z Z) ?_))))));refine B4 Z Z Z Z (fun k=>by rw[k];exact A8 Z Z) ?_;refine B4 Z Z Z Z (fun k=>by have C:=k;(try simp at C);rw[k];exact C9 Z Z (by omega)) ?_;refine B4 Z Z Z Z (fun k=>by have C:=k;(try simp at C);rw[k];exact H4 (eE w (1600+(c:Int)) (by omega) (by omega)) Z Z) ?_;refine B4 Z Z Z Z (fun k=>by have C:=k;(try simp at C);rw[k];exact lW Z Z (by omega)) ?_;refine B4 Z Z Z Z (fun k=>by rw[k];exact P8 Z Z) ?_;refine A6 (B9 Z (fun h=>by first | rfl | (rw[h];rfl)) (fun h=>by first | rfl | (rw[h];rfl))) Z ?_;refine B0 ?_;refine k1 ?_;refine vS (X:=List File) (fun M=>([(0,D7 Int 1 H1 w),(1,C7 m),(2,C7 z),(7,.s (.one (.buf 7 Commit 3 J3 E))),(8,C7 c),(9,.s (.one (.ref 9 0)))],[(7,.spare E.length 3 34),(9,.box [.p (.list Int 1 H1 G),.p (.v (.int .i64 d)),.p (.list File 2 l9 M)])])) (fun M=>GF (wM (c+1)) M/\GN (tP (c+1)) M) ?_ ?_
 ·refine B8 rfl (fun B=>?_) (fun B=>?_)
  ·rw[sS,A33]at B;have h2:=A0 B.1;obtain⟨q,qr,rfl⟩:∃q qr,G=q::qr:=by
    cases G with
    | nil=>simp at h2
    | cons q qr=>exact⟨q,qr,rfl⟩
   have av:=S q (by simp);have R:q.toNat<E.length:=by omega
   obtain⟨U,O⟩:∃U,U=E[q.toNat]:=⟨_,rfl⟩
   have ap:E[q.toNat]?=some U:=by rw[O];simp[R]
   have ae:=H U (by rw[O];exact A37 R);have af:=D.tree U (by rw[O];exact A37 R);skip;refine A7 (A6 (A8 Z Z) Z (A6 (B1 Z) Z (A6 (B2 Z Z Z) Z (A6 (C1 Z (.pure _ _ _ _) Z (by omega) (show (q::qr)[Int.toNat 0]?=some q from Z)) Z (A6 (D1 Z Z) Z (A6 (C1 Z (.buf _ _ _ _ _) Z (by omega) ap) Z (A6 (L7 Z) Z (A6 (D1 Z Z) Z (A6 (A8 Z Z) Z (A6 (A8 Z Z) Z (A6 (dV Z Z (by omega)) Z (A6 (C9 Z Z (by omega)) Z (A6 (A8 Z Z) Z (C4 (MR U.Files w (2000+200*(c:Int)) z (wM c) (tP c) ae af ac (by omega) (by omega) hl) Z Z Z ?_))))))))))))));rintro _ ⟨ab,rfl,V,W⟩;refine A6 (B1 Z) Z (F4 (C2 TySz.out Z Z Z Z Z Z) (B0 ?_));refine k1 ?_;exact⟨ab,⟨V,W⟩,(Sees.of ⟨B5 rfl,B5 rfl,B5 rfl,B5 rfl,B5 rfl,B5 rfl,trivial⟩ ⟨rfl,rfl,trivial⟩)⟩
  ·refine k5 (k1 ?_);exact⟨fl,⟨ah.mono (show 64<=wM (c+1) by rw[wM];omega),ai.mono (show 64<=tP (c+1) by rw[tP];omega)⟩,(Sees.of ⟨B5 rfl,B5 rfl,B5 rfl,B5 rfl,B5 rfl,B5 rfl,trivial⟩ ⟨rfl,rfl,trivial⟩)⟩
 rintro M ⟨aj,Y⟩;dsimp only;skip;refine A7 (A6 (A8 Z Z) Z (A6 (E7 Z Z Z) Z (A6 (E0 (c:=J3) (ys:=[⟨G,d,M⟩]) (D9 Z Z Z Z H2) Z Z Z) Z (D2 (L1 Z Z Z (.pure _ _ _ _) (by (simp only[A34,A38];omega)) Z) Z (A6 (A9 Z Z) Z (B0 ?_))))));refine k4 (k1 ?_);refine A7 (A6 (A8 Z Z) Z (A6 (C9 Z Z (by omega)) Z (A6 (A9 Z Z) Z (B0 ?_))));refine k1 ?_;refine⟨(c+1,E++[⟨G,d,M⟩]),⟨al,by dsimp only;rw[A35,List.length_singleton,P],fun y A=>?_,fun y A=>?_,fun j p K=>?_,fun y A=>?_,fun y A=>?_⟩,by dsimp only;omega,(Sees.of ⟨B5 rfl,B5 rfl,B5 rfl,B5 rfl,B5 rfl,trivial⟩ ⟨rfl,trivial⟩)⟩
 ·rcases A40.1 A with A | A
  ·exact⟨(I y A).1,fun p hp=>by have:=(I y A).2 p hp;dsimp only;omega⟩
  ·rw[List.mem_singleton.1 A];exact⟨am,fun p hp=>by have:=S p hp;dsimp only;omega⟩
 ·rcases A40.1 A with A | A
  ·exact (H y A).mono (show wM c<=wM (c+1) by rw[wM];omega)
  ·rw[List.mem_singleton.1 A];exact aj
 ·dsimp only at K;unfold F1 at K;rcases Nat.lt_trichotomy j E.length with J | J | J
  ·rw[A50 J]at K;exact D.up j p K
  ·subst J;rw[List.getElem?_concat_length]at K;have:=S p K;omega
  ·rw[A52 (by rw[A35,List.length_singleton];omega)]at K;cases K
 ·rcases A40.1 A with A | A
  ·exact D.nice y A
  ·rw[List.mem_singleton.1 A];exact⟨an,by dsimp only;omega,by dsimp only;omega⟩
 ·rcases A40.1 A with A | A
  ·exact (D.tree y A).mono (show tP c<=tP (c+1) by rw[tP];omega)
  ·rw[List.mem_singleton.1 A];exact Y
set_option maxHeartbeats 1000000
theorem getO_mapO(f:Ob->Ob):∀(ob:Obs) (j:Nat),D4 (A02 f ob) j=(D4 ob j).map f
 | [],_=>rfl
 | (i,o)::r,j=>by
  show D4 ((i,f o)::A02 f r) j=_;by_cases e:i=j
  ·subst e;rw[E6,E6];rfl
  ·rw[C8 e,C8 e,getO_mapO f r j]
abbrev auto5:AL.Auto:=⟨[qAcc,qEnd,qSp,qSet,qSet,qSta],5⟩
abbrev aa:Str:=[97,97]
structure AS where
 opn:List Int
 th:List AL.Thread
 sn:List Bool
def RP(x:AS):Int:=O5 x.opn (x.opn.length-1)
def XX(a:Nat)(fr:Int)(x:AS):AS :=
 if H0 x.sn (RP x).toNat=true then ⟨x.opn.take (x.opn.length-1),x.th,x.sn⟩
 else ⟨x.opn.take (x.opn.length-1)++PH (auto5.States.getD (RP x).toNat iZ) (decide ((a:Int)=0)) (decide ((a:Int)=(aa.length:Int))),x.th++[⟨RP x,fr⟩],x.sn.set (RP x).toNat true⟩
def YU(a:Nat)(fr:Int)(x:AS):Nat->AS
 | 0=>x
 | n+1=>XX a fr (YU a fr x n)
def MV(y:AS):Prop:=0<y.opn.length/\y.opn.length<=10/\0<=RP y/\RP y<6/\y.sn.length=6/\y.th.length<=10
instance (y:AS):Decidable (MV y):=by unfold MV;infer_instance
def addOk(a:Nat)(fr:Int)(x:AS)(n:Nat):Bool:=(List.range n).all (fun k=>decide (MV (YU a fr x k)))
theorem DInv.last{g:Graph}{e:List Bool}{st:List Int}{k i:Nat}{l b D:List Int}(h:DInv g e st k i l b D)(m:0<b.length):∃c:Nat,b=b.take (b.length-1)++[(c:Int)]/\c<g.length/\b[b.length-1]?=some (c:Int):=by
 have d:b.length-1<b.length:=by omega
 have n:=h.on b[b.length-1] (List.mem_append_right _ (A37 d));have f:b[b.length-1]=(b[b.length-1].toNat:Int):=by omega
 refine⟨b[b.length-1].toNat,?_,by omega,by rw[A32 d];exact congrArg some f⟩;have j:b.take (b.length-1+1)=b:=A64 (by omega);rw[List.take_add_one,A32 d,Option.toList_some]at j;rw[<-f];exact j.symm
end Go.Proofs.YtgkjogphmmoakaaGreatDoor
