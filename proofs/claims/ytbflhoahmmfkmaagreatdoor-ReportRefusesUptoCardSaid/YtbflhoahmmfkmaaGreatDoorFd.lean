/- Walks of the program's functions. -/
import Derived.Test.YtbflhoahmmfkmaaGreatDoorFc
set_option linter.all false
namespace Go.Proofs.YtbflhoahmmfkmaaGreatDoor
open Go Go.AL
set_option maxRecDepth 100000
set_option maxHeartbeats 2000000
def P3(l:List Int):Str:=zB (l.map fun c=>[c])
structure DoArm (g:Graph) (c:Cmd) (out:Str) (e:Int):Prop where
 log:c.Kind=1->∃l:List Int,l.length<=1000/\out=P3 l/\FnOk Tryz.prog 17 [E4 g,P5 [c.A]] (fun rs=>rs=[P5 l,D0 e])
 diff:c.Kind=3->FnOk Tryz.prog 35 [E4 g,j7 c] (fun rs=>rs=[F9 out,D0 e])
 merge:c.Kind=4->FnOk Tryz.prog 36 [E4 g,j7 c] (fun rs=>rs=[F9 out,D0 e])
 lit:c.Kind=5->∃l:List Int,l.length<=1000/\out=P3 l/\FnOk Tryz.prog 24 [E4 g,D0 c.A,F9 c.Text] (fun rs=>rs=[P5 l,D0 e])
 lines:c.Kind=7->FnOk Tryz.prog 38 [E4 g,j7 c] (fun rs=>rs=[F9 out,D0 e])
 blame:c.Kind=8->FnOk Tryz.prog 39 [E4 g,j7 c] (fun rs=>rs=[F9 out,D0 e])
 bases:c.Kind=9->∃l:List Int,l.length<=1000/\out=P3 l/\FnOk Tryz.prog 23 [E4 g,D0 c.A,D0 c.B] (fun rs=>rs=[P5 l,D0 e])
theorem AO(g:Graph)(c:Cmd)(h:FewT g)(b:G4 g≠0):FnOk Tryz.prog 11 [E4 g,j7 c] (fun rs=>rs=[F9 [],D0 (G4 g)]):=by
 obtain⟨D,e⟩:∃D,D=G4 g:=⟨_,rfl⟩
 have a:=aM g h;rw[<-e]at a b ⊢;refine FnOk.intro Tryz.func11 (by decide) Z Z Z Z ?_;refine k2 ?_;refine A7 (E1 (bC 3 Z Z Z) Z (A6 (A9 Z Z) Z (A6 (A9 Z Z) Z (B0 ?_))));refine k1 (k2 (k2 ?_));refine A7 (A6 (A8 Z Z) Z (C9 (a) Z Z Z ?_));rintro _ rfl;refine A6 (A9 Z Z) Z (B0 ?_);refine k1 (k2 ?_);refine A7 (A6 (A8 Z Z) Z (A6 (L8 Z Z) Z (B0 ?_)));refine k1 ?_;refine B2 rfl (fun d=>?_) (fun d=>?_);rotate_left
 ·exact absurd b (A1 d)
 refine k2 ?_;refine A7 (A6 (A8 Z Z) Z (A6 (A9 Z Z) Z (A6 (A9 Z Z) Z (B0 ?_))));refine k1 (I2 (H9 ?_));exact B4 (rs:=[F9 [],D0 D]) (i7 rfl rfl rfl rfl rfl) rfl
theorem CQ(g:Graph)(c:Cmd)(t:Str)(e:Int)(h:FewT g)(H:G4 g=0)(z:c.Text.length<=1048576)(I:(jQ c).2=0)(C:aE g c.A)(G:c.Kind=3\/c.Kind=9->aE g c.B)(R:1<=c.Kind/\c.Kind<=9/\c.Kind≠2/\c.Kind≠6)(p:DoArm g c t e) :
  FnOk Tryz.prog 11 [E4 g,j7 c] (fun rs=>rs=[F9 t,D0 e]):=by
 have D:=aM g h;rw[H]at D;have E:=vQ c z;rw[I]at E;refine FnOk.intro Tryz.func11 (by decide) Z Z Z Z ?_;refine k2 ?_;refine A7 (E1 (bC 3 Z Z Z) Z (A6 (A9 Z Z) Z (A6 (A9 Z Z) Z (B0 ?_))));refine k1 (k2 (k2 ?_));refine A7 (A6 (A8 Z Z) Z (C9 (D) Z Z Z ?_));rintro _ rfl;refine A6 (A9 Z Z) Z (B0 ?_);refine k1 (k2 ?_);refine A7 (A6 (A8 Z Z) Z (A6 (L8 Z Z) Z (B0 ?_)));refine k1 ?_;refine B2 rfl (fun i=>?_) (fun i=>?_)
 ·exact absurd rfl (A0 i)
 refine k5 (k1 (k2 (k2 ?_)));refine A7 (A6 (G7 Z Z Z) Z (C9 (E) Z Z Z ?_));rintro _ rfl;refine A6 (A8 Z Z) Z (A6 (C1 Z Z) Z (A6 (C1 Z Z) Z (A6 (A9 Z Z) Z (A6 (A9 Z Z) Z (B0 ?_)))));refine k1 (k2 ?_);refine A7 (A6 (A8 Z Z) Z (A6 (L8 Z Z) Z (B0 ?_)));refine k1 ?_;refine B2 rfl (fun i=>?_) (fun i=>?_)
 ·exact absurd rfl (A0 i)
 refine k5 (k1 (k2 ?_));refine A7 (A6 (B3 Z) Z (A6 (B8 Z Z Z) Z (A6 (J9 Z Z) Z (A6 (A8 Z Z) Z (B1 Z Z Z Z (fun j=>by rw[j];exact B3 Z) ?_)))));refine B1 Z Z Z Z (fun j=>by rw[j];exact B8 Z Z Z) ?_;refine B1 Z Z Z Z (fun j=>by rw[j];exact J9 Z Z) ?_;refine A6 (B6 Z (fun h=>by first | rfl | (rw[h];rfl)) (fun h=>by first | rfl | (rw[h];rfl))) Z ?_;refine A6 (A9 Z Z) Z (B0 ?_);refine oT [(0,D9 Commit 3 E6 g),(3,.s (.one (.ref 3 0))),(9,O4 (decide (c.Kind=3\/c.Kind=9)))] [(3,.box (z7 c))] (by rw[<-or_pick];exact (Sees.of ⟨B5 rfl,B5 rfl,B5 rfl,trivial⟩ ⟨rfl,trivial⟩)) ?_;refine k2 (k2 ?_);refine A7 (A6 (A8 Z Z) Z (A6 (B3 Z) Z (A6 (B8 Z Z Z) Z (C9 (sH g c.A) Z Z Z ?_))));rintro _ rfl;refine A6 (Z4 Z) Z (A6 (A8 Z Z) Z (B1 Z Z Z Z (fun j=>by rw[j];exact A8 Z Z) ?_));refine B1 Z Z Z Z (fun j=>by rw[j];exact A8 Z Z) ?_;refine S6 Z Z Z (.gd (.val _)) Z (fun j=>by obtain⟨k,m⟩:=W9 j;(try rw[k]);(try rw[m]);exact A8 Z Z) ?_;refine S6 Z Z Z (.gd (.val _)) Z (fun j=>by obtain⟨k,m⟩:=W9 j;(try rw[k]);(try rw[m]);exact B3 Z) ?_;refine S6 Z Z Z (.gd (.val _)) Z (fun j=>by obtain⟨k,m⟩:=W9 j;(try rw[k]);(try rw[m]);exact B8 Z Z Z) ?_;refine S6 Z Z Z (.gd (.val _)) Z (fun j=>by have J:=j;(try simp at J);obtain⟨k,m⟩:=W9 j;(try rw[k]);(try rw[m]);exact M2 (sH g c.B) Z Z) ?_;refine S6 Z Z Z (.gd (.val _)) Z (fun j=>by obtain⟨k,m⟩:=W9 j;(try rw[k]);(try rw[m]);exact Z4 Z) ?_;refine B1 Z Z Z Z (fun j=>by rw[j];exact B6 Z (fun h=>by first | rfl | (rw[h];rfl)) (fun h=>by first | rfl | (rw[h];rfl))) ?_;refine A6 (B6 Z (fun h=>by first | rfl | (rw[h];rfl)) (fun h=>by first | rfl | (rw[h];rfl))) Z ?_;refine B0 ?_;refine k1 ?_;refine B2 rfl (fun i=>?_) (fun i=>?_)
 ·exfalso;revert i;by_cases y:c.Kind=3\/c.Kind=9
  ·simp[C,G y,y]
  ·simp[C,y]
 refine oT [(0,D9 Commit 3 E6 g),(3,.s (.one (.ref 3 0)))] [(3,.box (z7 c))] (Sees.of ⟨B5 rfl,B5 rfl,trivial⟩ ⟨rfl,trivial⟩) ?_;refine k5 (k1 (k2 (k2 ?_)));refine A7 (A6 (B3 Z) Z (A6 (B8 Z Z Z) Z (B0 ?_)));refine k1 (k3 (k2 ?_));refine A7 (A6 (J9 Z Z) Z (A6 (A9 Z Z) Z (B0 ?_)));refine k1 ?_;refine B2 rfl (fun i=>?_) (fun i=>?_)
 ·obtain⟨l,u,w,q⟩:=p.log (A0 i);rw[w];refine k2 ?_;refine A7 (A6 (A8 Z Z) Z (A6 (B3 Z) Z (A6 (B8 Z Z Z) Z (A6 (G2 (c:=K4) (ys:=[c.A]) (F6 Z Z Z Z M3) Z Z Z) Z (C9 (q) Z Z Z ?_)))));rintro _ rfl;refine A6 (C1 Z Z) Z (A6 (C1 Z Z) Z (C9 (x9 l e u) Z Z Z ?_));rintro _ rfl;refine A6 (C1 Z Z) Z (A6 (C1 Z Z) Z (A6 (A9 Z Z) Z (A6 (A9 Z Z) Z (B0 ?_))));refine k1 (I2 (N8 (H9 ?_)));exact B4 (rs:=[F9 (P3 l),D0 e]) (i7 rfl rfl rfl rfl rfl) rfl
 refine k2 ?_;refine A7 (A6 (J9 Z Z) Z (A6 (A9 Z Z) Z (B0 ?_)));refine k1 ?_;refine B2 rfl (fun i=>?_) (fun i=>?_)
 ·have:=A0 i;omega
 refine k2 ?_;refine A7 (A6 (J9 Z Z) Z (A6 (A9 Z Z) Z (B0 ?_)));refine k1 ?_;refine B2 rfl (fun i=>?_) (fun i=>?_)
 ·have q:=p.diff (A0 i);refine k2 ?_;refine A7 (A6 (A8 Z Z) Z (A6 (G7 Z Z Z) Z (C9 (q) Z Z Z ?_)));rintro _ rfl;refine A6 (C1 Z Z) Z (A6 (C1 Z Z) Z (A6 (A9 Z Z) Z (A6 (A9 Z Z) Z (B0 ?_))));refine k1 (I2 (N8 (H9 ?_)));exact B4 (rs:=[F9 t,D0 e]) (i7 rfl rfl rfl rfl rfl) rfl
 refine k2 ?_;refine A7 (A6 (J9 Z Z) Z (A6 (A9 Z Z) Z (B0 ?_)));refine k1 ?_;refine B2 rfl (fun i=>?_) (fun i=>?_)
 ·have q:=p.merge (A0 i);refine k2 ?_;refine A7 (A6 (A8 Z Z) Z (A6 (G7 Z Z Z) Z (C9 (q) Z Z Z ?_)));rintro _ rfl;refine A6 (C1 Z Z) Z (A6 (C1 Z Z) Z (A6 (A9 Z Z) Z (A6 (A9 Z Z) Z (B0 ?_))));refine k1 (I2 (N8 (H9 ?_)));exact B4 (rs:=[F9 t,D0 e]) (i7 rfl rfl rfl rfl rfl) rfl
 refine k2 ?_;refine A7 (A6 (J9 Z Z) Z (A6 (A9 Z Z) Z (B0 ?_)));refine k1 ?_;refine B2 rfl (fun i=>?_) (fun i=>?_)
 ·obtain⟨l,u,w,q⟩:=p.lit (A0 i);rw[w];refine k2 ?_;refine A7 (A6 (A8 Z Z) Z (A6 (B3 Z) Z (A6 (B8 Z Z Z) Z (A6 (B3 Z) Z (A6 (B8 Z Z Z) Z (C9 (q) Z Z Z ?_))))));rintro _ rfl;refine A6 (C1 Z Z) Z (A6 (C1 Z Z) Z (C9 (x9 l e u) Z Z Z ?_));rintro _ rfl;refine A6 (C1 Z Z) Z (A6 (C1 Z Z) Z (A6 (A9 Z Z) Z (A6 (A9 Z Z) Z (B0 ?_))));refine k1 (I2 (N8 (H9 ?_)));exact B4 (rs:=[F9 (P3 l),D0 e]) (i7 rfl rfl rfl rfl rfl) rfl
 refine k2 ?_;refine A7 (A6 (J9 Z Z) Z (A6 (A9 Z Z) Z (B0 ?_)));refine k1 ?_;refine B2 rfl (fun i=>?_) (fun i=>?_)
 ·have:=A0 i;omega
 refine k2 ?_;refine A7 (A6 (J9 Z Z) Z (A6 (A9 Z Z) Z (B0 ?_)));refine k1 ?_;refine B2 rfl (fun i=>?_) (fun i=>?_)
 ·have q:=p.lines (A0 i);refine k2 ?_;refine A7 (A6 (A8 Z Z) Z (A6 (G7 Z Z Z) Z (C9 (q) Z Z Z ?_)));rintro _ rfl;refine A6 (C1 Z Z) Z (A6 (C1 Z Z) Z (A6 (A9 Z Z) Z (A6 (A9 Z Z) Z (B0 ?_))));refine k1 (I2 (N8 (H9 ?_)));exact B4 (rs:=[F9 t,D0 e]) (i7 rfl rfl rfl rfl rfl) rfl
 refine k2 ?_;refine A7 (A6 (J9 Z Z) Z (A6 (A9 Z Z) Z (B0 ?_)));refine k1 ?_;refine B2 rfl (fun i=>?_) (fun i=>?_)
 ·have q:=p.blame (A0 i);refine k2 ?_;refine A7 (A6 (A8 Z Z) Z (A6 (G7 Z Z Z) Z (C9 (q) Z Z Z ?_)));rintro _ rfl;refine A6 (C1 Z Z) Z (A6 (C1 Z Z) Z (A6 (A9 Z Z) Z (A6 (A9 Z Z) Z (B0 ?_))));refine k1 (I2 (N8 (H9 ?_)));exact B4 (rs:=[F9 t,D0 e]) (i7 rfl rfl rfl rfl rfl) rfl
 rename_i K L M N O P Q;have F:c.Kind=9:=by
  have:=A1 i;have:=A1 K;have:=A1 L;have:=A1 M;have:=A1 N;have:=A1 O;have:=A1 P;have:=A1 Q;omega
 obtain⟨l,u,w,q⟩:=p.bases F;rw[w];refine k5 (k2 ?_);refine A7 (A6 (A8 Z Z) Z (A6 (B3 Z) Z (A6 (B8 Z Z Z) Z (A6 (B3 Z) Z (A6 (B8 Z Z Z) Z (C9 (q) Z Z Z ?_))))));rintro _ rfl;refine A6 (C1 Z Z) Z (A6 (C1 Z Z) Z (C9 (x9 l e u) Z Z Z ?_));rintro _ rfl;refine A6 (C1 Z Z) Z (A6 (C1 Z Z) Z (A6 (A9 Z Z) Z (A6 (A9 Z Z) Z (B0 ?_))));refine k1 (I2 ?_);exact B4 (rs:=[F9 (P3 l),D0 e]) (i7 rfl rfl rfl rfl rfl) rfl
theorem fW(g:Graph)(a:Str)(c:Cmd)(j:Int)(i:Str)(q:Int)(y:a.length<=65536)(x:i.length<=16777216)(v:FnOk Tryz.prog 101 [F9 a] (fun rs=>rs=[j7 c,D0 j]))
  (t:j=0->FnOk Tryz.prog 11 [E4 g,j7 c] (fun rs=>rs=[F9 i,D0 q])) :
  FnOk Tryz.prog 54 [E4 g,F9 a] (fun rs=>rs=[F9 (X2 a i (if j=0 then q else j))]):=by
 obtain⟨o,d⟩:∃o:Str,o=if j=0 then i else []:=⟨_,rfl⟩
 obtain⟨f,b⟩:∃f:Int,f=if j=0 then q else j:=⟨_,rfl⟩
 obtain⟨n,e⟩:∃n:Str,n=if f≠0 then eF f else o:=⟨_,rfl⟩
 have w:=aN f;have p:o.length<=16777216:=by
  rw[d];split
  ·exact x
  ·simp
 have r:n.length<=16777216:=by
  rw[e];split
  ·unfold eF;simp only[HW,HU,IM];omega
  ·exact p
 have m:X2 a i f=[62,32]++a++[10]++n:=by
  unfold X2;rw[e];by_cases h:f≠0
  ·rw[A4 h,A4 h]
  ·rw[A5 h,A5 h];have:j=0:=by
    apply Classical.byContradiction;intro s;rw[b,A5 s]at h;exact h s
   rw[d,A4 this]
 rw[<-b,m];refine FnOk.intro Tryz.func54 (by decide) Z Z Z Z ?_;refine k2 ?_;refine A7 (A6 (A9 Z Z) Z (B0 ?_));refine k1 (k2 ?_);refine A7 (A6 (A8 Z Z) Z (C9 (v) Z Z Z ?_));rintro _ rfl;refine A6 (A8 Z Z) Z (A6 (C1 Z Z) Z (A6 (C1 Z Z) Z (E1 (P2 5 Z) Z (J8 (E0 TySz.out Z Z Z Z Z Z) (A6 (A9 Z Z) Z (B0 ?_))))));refine k1 (k2 ?_);refine A7 (A6 (A9 Z Z) Z (B0 ?_));refine k1 (k2 (k2 ?_));refine A7 (A6 (A8 Z Z) Z (A6 (J9 Z Z) Z (B0 ?_)));refine k1 ?_;refine aK [(1,L6 a),(7,L6 o),(6,D5 f)] [] ?_ ?_
 ·skip;refine B2 rfl (fun l=>?_) (fun l=>?_)
  ·have k:j=0:=A0 l;have u:=t k;rw[A4 k]at d b;subst d b;skip;refine A7 (A6 (A8 Z Z) Z (A6 (G7 Z Z Z) Z (C9 (u) Z Z Z ?_)));rintro _ rfl;refine A6 (A8 Z Z) Z (A6 (C1 Z Z) Z (A6 (C1 Z Z) Z (A6 (A9 Z Z) Z (A6 (A9 Z Z) Z (B0 ?_)))));refine k1 ?_;exact Sees.of ⟨B5 rfl,B5 rfl,B5 rfl,trivial⟩ trivial
  ·have k:¬j=0:=A1 l;rw[A5 k]at d b;subst d b;refine k5 (k1 ?_);exact Sees.of ⟨B5 rfl,B5 rfl,B5 rfl,trivial⟩ trivial
 refine k2 (k2 ?_);refine A7 (A6 (A8 Z Z) Z (A6 (L8 Z Z) Z (B0 ?_)));refine k1 ?_;refine aK [(1,L6 a),(7,L6 n)] [] ?_ ?_
 ·skip;refine B2 rfl (fun l=>?_) (fun l=>?_)
  ·have k:f≠0:=A0 l;rw[A4 k]at e;rw[e];skip;refine A7 (A6 (A8 Z Z) Z (C9 (cG f) Z Z Z ?_));rintro _ rfl;refine A6 (L9 Z Z (by (simp;omega))) Z (A6 (L9 Z Z (by (simp;omega))) Z (A6 (A9 Z Z) Z (B0 ?_)));refine k1 ?_;exact Sees.of ⟨B5 rfl,B5 rfl,trivial⟩ trivial
  ·have k:¬f≠0:=A1 l;rw[A5 k]at e;rw[e];refine k5 (k1 ?_);exact Sees.of ⟨B5 rfl,B5 rfl,trivial⟩ trivial
 refine k2 ?_;refine A7 (A6 (A8 Z Z) Z (A6 (L9 Z Z (by (simp;omega))) Z (A6 (L9 Z Z (by (simp;omega))) Z (A6 (A8 Z Z) Z (A6 (L9 Z Z (by (simp;omega))) Z (A6 (A9 Z Z) Z (B0 ?_)))))));refine k1 (I2 ?_);exact B4 (rs:=[F9 ([62,32]++a++[10]++n)]) (G8 rfl rfl rfl) rfl
theorem yJ{gf:Fr}{ob:Obs}{c:Str}{a:TC}(d:C2 ob 700=some (.tbx 109 [a,.buf 701 UInt8 1 rP c])) :
  AL.Met Tryz.prog 55 [.one (.ref 700 0)] gf ob [] (fun rs ob'=>rs=[.one (.p (.v (.int .i64 c.length)))]/\ob'=ob):=by
 refine AL.Met.intro Tryz.func55 (by decide) Z Z Z ?_;refine k2 ?_;refine A7 (A6 (A9 Z Z) Z (B0 ?_));refine k1 (k2 ?_);refine A7 (A6 (A8 Z Z) Z (A6 (C3 Z) Z (A6 (B3 Z) Z (A6 (w9 Z d Z) Z (A6 (F3 Z (.buf _ _ _ _ _)) Z (A6 (A9 Z Z) Z (B0 ?_)))))));refine k1 (I2 ?_);exact N4 (x1 rfl rfl) (by repeat (first | exact F4 | refine F5 rfl ?_ | refine H4 _ ?_)) (fun _ _ h=>h) ⟨rfl,rfl⟩
def yK:Bool->TC
 | false=>.p (.v (.pointer none))
 | true=>.ref 700 0
theorem AP(b:Bool):yK b=.p (.v (.pointer none))\/yK b=.ref 700 0:=by cases b<;>simp[yK]
def j3(b:List Str)(i:Nat):Str:=(b.take i).flatten
theorem qB{a:List Str}{i:Nat}{o:Str}(h:a[i]?=some o):j3 a (i+1)=j3 a i++o:=by
 unfold j3;rw[List.take_add_one,h];simp
theorem jA(a:List Str)(i:Nat):(j3 a i).length<=a.flatten.length:=by
 unfold j3
 conv=>rhs;rw[<-JH i a,JP,HW]
 omega
theorem yL(g:Graph)(s:Str)(h:FewT g)(b:G4 g≠0):FnOk Tryz.prog 21 [E4 g,F9 s] (fun rs=>rs=[F9 [],D0 (G4 g)]):=by
 obtain⟨D,d⟩:∃D,D=G4 g:=⟨_,rfl⟩
 have a:=aM g h;rw[<-d]at a b ⊢;refine FnOk.intro Tryz.func21 (by decide) Z Z Z Z ?_;refine k2 ?_;refine A7 (A6 (A9 Z Z) Z (A6 (A9 Z Z) Z (B0 ?_)));refine k1 (k2 (k2 ?_));refine A7 (A6 (A8 Z Z) Z (C9 (a) Z Z Z ?_));rintro _ rfl;refine A6 (A9 Z Z) Z (B0 ?_);refine k1 (k2 ?_);refine A7 (A6 (A8 Z Z) Z (A6 (L8 Z Z) Z (B0 ?_)));refine k1 ?_;refine B2 rfl (fun c=>?_) (fun c=>?_);rotate_left
 ·exact absurd b (A1 c)
 refine k2 ?_;refine A7 (A6 (A8 Z Z) Z (A6 (A9 Z Z) Z (A6 (A9 Z Z) Z (B0 ?_))));refine k1 (I2 (H9 ?_));exact B4 (rs:=[F9 [],D0 D]) (i7 rfl rfl rfl rfl rfl) rfl
theorem yM(g:Graph)(s:Str)(h:FewT g)(f:G4 g=0)(i:s.length<=536870912)(d:(s7 s).2≠0):FnOk Tryz.prog 21 [E4 g,F9 s] (fun rs=>rs=[F9 [],D0 (s7 s).2]):=by
 obtain⟨R,e⟩:∃R,R=s7 s:=⟨_,rfl⟩
 have b:=aM g h;rw[f]at b;have c:=lW s i;rw[<-e]at c d ⊢;refine FnOk.intro Tryz.func21 (by decide) Z Z Z Z ?_;refine k2 ?_;refine A7 (A6 (A9 Z Z) Z (A6 (A9 Z Z) Z (B0 ?_)));refine k1 (k2 (k2 ?_));refine A7 (A6 (A8 Z Z) Z (C9 (b) Z Z Z ?_));rintro _ rfl;refine A6 (A9 Z Z) Z (B0 ?_);refine k1 (k2 ?_);refine A7 (A6 (A8 Z Z) Z (A6 (L8 Z Z) Z (B0 ?_)));refine k1 ?_;refine B2 rfl (fun a=>?_) (fun a=>?_)
 ·exact absurd rfl (A0 a)
 refine k5 (k1 (k2 ?_));refine A7 (A6 (A8 Z Z) Z (C9 (c) Z Z Z ?_));rintro _ rfl;refine A6 (A8 Z Z) Z (A6 (C1 Z Z) Z (A6 (C1 Z Z) Z (A6 (A9 Z Z) Z (A6 (A9 Z Z) Z (B0 ?_)))));refine k1 (k2 (k2 ?_));refine A7 (A6 (A8 Z Z) Z (A6 (L8 Z Z) Z (B0 ?_)));refine k1 ?_;refine B2 rfl (fun a=>?_) (fun a=>?_);rotate_left
 ·exact absurd d (A1 a)
 refine k2 ?_;refine A7 (A6 (A8 Z Z) Z (A6 (A9 Z Z) Z (A6 (A9 Z Z) Z (B0 ?_))));refine k1 (I2 (H9 ?_));exact B4 (rs:=[F9 [],D0 R.2]) (i7 rfl rfl rfl rfl rfl) rfl
theorem uJ(g:Graph)(s:Str)(m c:List Str)(h:FewT g)(L:G4 g=0)(B:s.length<=536870912)(E:s7 s=(m,0))(H:c.length=m.length)(K:∀(i:Nat) (d o:Str),m[i]?=some d->c[i]?=some o->FnOk Tryz.prog 54 [E4 g,F9 d] (fun rs=>rs=[F9 o]))
  (I:c.flatten.length<=16777216) (O:m.length<=1000):FnOk Tryz.prog 21 [E4 g,F9 s] (fun rs=>rs=[F9 c.flatten,D0 0]):=by
 have F:=aM g h;rw[L]at F;have G:=lW s B;rw[E]at G;have w:c.flatten=j3 c c.length:=by unfold j3;rw[HX]
 rw[w];refine FnOk.intro Tryz.func21 (by decide) Z Z Z Z ?_;refine k2 ?_;refine A7 (A6 (A9 Z Z) Z (A6 (A9 Z Z) Z (B0 ?_)));refine k1 (k2 (k2 ?_));refine A7 (A6 (A8 Z Z) Z (C9 (F) Z Z Z ?_));rintro _ rfl;refine A6 (A9 Z Z) Z (B0 ?_);refine k1 (k2 ?_);refine A7 (A6 (A8 Z Z) Z (A6 (L8 Z Z) Z (B0 ?_)));refine k1 ?_;refine B2 rfl (fun j=>?_) (fun j=>?_)
 ·exact absurd rfl (A0 j)
 refine k5 (k1 (k2 ?_));refine A7 (A6 (A8 Z Z) Z (C9 (G) Z Z Z ?_));rintro _ rfl;refine A6 (A8 Z Z) Z (A6 (C1 Z Z) Z (A6 (C1 Z Z) Z (A6 (A9 Z Z) Z (A6 (A9 Z Z) Z (B0 ?_)))));refine k1 (k2 (k2 ?_));refine A7 (A6 (A8 Z Z) Z (A6 (L8 Z Z) Z (B0 ?_)));refine k1 ?_;refine B2 rfl (fun j=>?_) (fun j=>?_)
 ·exact absurd rfl (A0 j)
 refine k5 (k1 (k2 ?_));refine A7 (E1 (oU 700 Z) Z (B0 ?_));refine k1 (k2 (k2 ?_));refine Q7 (HJ 701 UInt8 1 rP 5 (kb:=700) (o:=1) Z Z Z) ?_;refine A7 (A6 (A8 Z Z) Z (A6 (F3 Z (.pure _ _ _ _)) Z (A6 (A8 Z Z) Z (B0 ?_))));refine k1 (k3 ?_);refine D3 (X:=Nat×Bool) (fun x=>([(0,D9 Commit 3 E6 g),(9,.s (.one (.ref 700 0))),(25,D9 Str 1 n9 m),(26,D5 m.length),(27,D5 x.1)],[(700,.tbx 109 [yK x.2,.buf 701 UInt8 1 rP (j3 c x.1)]),(701,.spare (j3 c x.1).length 1 5)])) (fun x=>x.1<=m.length) (fun x=>m.length-x.1) (0,false) (Nat.zero_le _) (Sees.of ⟨B5 rfl,B5 rfl,B5 rfl,B5 rfl,B5 rfl,trivial⟩ ⟨rfl,rfl,trivial⟩) ?_;rintro⟨i,a⟩ N;dsimp only at N ⊢;have ha:=AP a;have M:=jA c i;refine k2 ?_;refine A7 (A6 (E9 Z Z) Z (B0 ?_));refine k1 (k2 ?_);refine B2 rfl (fun j=>?_) (fun j=>?_);rotate_left
 ·have C:i=c.length:=by have v:=A1 j;(try dsimp only at v);omega
  rw[C];refine k6 (k2 ?_);refine A7 (lE (k:=700) (k':=701) ⟨_,rfl,rfl,rfl⟩ bJ Z Z Z Z Z ha Z (A6 (A9 Z Z) Z (A6 (A9 Z Z) Z (B0 ?_))));refine k1 (I2 ?_);exact B4 (rs:=[F9 (j3 c c.length),D0 0]) (i7 rfl rfl rfl rfl rfl) rfl
 have z:i<m.length:=by have v:=A0 j;(try dsimp only at v);omega
 obtain⟨d,q⟩:∃d,d=m[i]:=⟨_,rfl⟩
 have J:m[i]?=some d:=by rw[q];exact HQ z
 obtain⟨o,P⟩:∃o,o=c[i]:=⟨_,rfl⟩
 have A:c[i]?=some o:=by rw[P];exact HQ (by omega)
 have D:=K i d o J A;have B:=qB A;have y:=jA c (i+1);rw[B,HW]at y;refine k5 (k1 (k2 (k3 (k2 ?_))));refine A7 (A6 (B7 Z (.pure _ _ _ _) Z (by omega) J) Z (A6 (B9 Z Z) Z (A6 (A9 Z Z) Z (B0 ?_))));refine k1 (k2 ?_);refine A7 (A6 (A8 Z Z) Z (A6 (A8 Z Z) Z (C9 (D) Z Z Z ?_)));rintro _ rfl;refine dF (s9 ⟨⟨yK a,ha,rfl⟩,rfl⟩ (by omega)) Z Z Z ?_;rintro _ _ ⟨rfl,rfl⟩;refine B0 ?_;refine k1 (k2 ?_);refine A7 (dF (yJ Z) Z Z Z ?_);rintro _ _ ⟨rfl,rfl⟩;refine A6 (N1 Z Z) Z (B0 ?_);refine k1 ?_;refine B2 rfl (fun j=>?_) (fun j=>?_)
 ·exfalso;have v:=A0 j;rw[HW]at v;omega
 refine k5 (k4 (k1 ?_));refine A7 (A6 (E2 Z Z (by omega)) Z (A6 (A8 Z Z) Z (B0 ?_)));refine k1 ?_;exact⟨(i+1,true),z,by dsimp only;omega,(by dsimp only;rw[B];exact (Sees.of ⟨B5 rfl,B5 rfl,B5 rfl,B5 rfl,B5 rfl,trivial⟩ ⟨rfl,rfl,trivial⟩))⟩
theorem qC(g:Graph)(l:List Int)(h:FewT g)(m:G4 g=0)(q:l.length<=1000)(n:∀x∈l,aE g x):FnOk Tryz.prog 60 [E4 g,P5 l] (fun rs=>rs=[D0 0]):=by
 have f:=aM g h;rw[m]at f;refine FnOk.intro Tryz.func60 (by decide) Z Z Z Z ?_;refine k2 ?_;refine A7 (A6 (A9 Z Z) Z (B0 ?_));refine k1 (k2 (k2 ?_));refine A7 (A6 (A8 Z Z) Z (C9 (f) Z Z Z ?_));rintro _ rfl;refine A6 (A9 Z Z) Z (B0 ?_);refine k1 (k2 ?_);refine A7 (A6 (A8 Z Z) Z (A6 (L8 Z Z) Z (B0 ?_)));refine k1 ?_;refine B2 rfl (fun a=>?_) (fun a=>?_)
 ·exact absurd rfl (A0 a)
 refine k5 (k1 (k2 (k2 ?_)));refine A7 (A6 (A8 Z Z) Z (A6 (F3 Z (.pure _ _ _ _)) Z (A6 (A8 Z Z) Z (B0 ?_))));refine k1 (k3 ?_);refine D3 (X:=Nat) (fun i=>([(0,D9 Commit 3 E6 g),(13,D9 Int 1 K4 l),(14,D5 l.length),(15,D5 i)],[])) (fun i=>i<=l.length) (fun i=>l.length-i) 0 (Nat.zero_le _) (Sees.of ⟨B5 rfl,B5 rfl,B5 rfl,B5 rfl,trivial⟩ trivial) ?_;intro i d;dsimp only at d ⊢;refine k2 ?_;refine A7 (A6 (E9 Z Z) Z (B0 ?_));refine k1 (k2 ?_);refine B2 rfl (fun a=>?_) (fun a=>?_);rotate_left
 ·refine k6 (k2 ?_);refine A7 (A6 (A9 Z Z) Z (B0 ?_));refine k1 (I2 ?_);exact B4 (rs:=[D0 0]) (G8 rfl rfl rfl) rfl
 have b:i<l.length:=by have k:=A0 a;(try dsimp only at k);omega
 obtain⟨x,j⟩:∃x,x=l[i]:=⟨_,rfl⟩
 have o:l[i]?=some x:=by rw[j];simp[b]
 have c:=sH g x;rw[A2 (n x (by rw[j];exact HT b))]at c;refine k5 (k1 (k2 (k3 (k2 ?_))));refine A7 (A6 (B7 Z (.pure _ _ _ _) Z (by omega) o) Z (A6 (B9 Z Z) Z (A6 (A9 Z Z) Z (B0 ?_))));refine k1 (k2 ?_);refine A7 (A6 (A8 Z Z) Z (A6 (A8 Z Z) Z (C9 (c) Z Z Z ?_)));rintro _ rfl;refine A6 (Z4 Z) Z (B0 ?_);refine k1 ?_;refine B2 rfl (fun a=>?_) (fun a=>?_)
 ·cases a
 refine k5 (k4 (k1 ?_));refine A7 (A6 (E2 Z Z (by omega)) Z (A6 (A8 Z Z) Z (B0 ?_)));refine k1 ?_;exact⟨i+1,by omega,by omega,Sees.of ⟨B5 rfl,B5 rfl,B5 rfl,B5 rfl,trivial⟩ trivial⟩
def xD(a:List Bool)(b:List Int):Nat:=2*a.count false+b.length
theorem nL(g:Graph)(c:Nat)(hF:FewG g)(hr:related g=true)(Y:c<g.length):FnOk Tryz.prog 61 [E4 g,D0 c] (fun rs=>rs=[oF (G6 g [(c:Int)])]):=by
 have hg:=hF.len;obtain⟨z,hz⟩:∃z,z=(List.replicate g.length false).set c true:=⟨_,rfl⟩
 have Q:=Dfs.init Y;have am:xD z [(c:Int)]<=2*g.length:=by
  have J:=kB (l:=List.replicate g.length false) (i:=c) (by rw[IN];exact Y) (by unfold D2;rw[List.getElem?_replicate,A4 Y];rfl);rw[<-hz,List.count_replicate_self]at J;unfold xD;rw[List.length_singleton];omega
 rw[<-hz]at Q;refine FnOk.intro Tryz.func61 (by decide) Z Z Z Z ?_;refine k2 ?_;refine A7 (A6 (L7 _ 1 S3) Z (B0 ?_));refine k1 (k2 ?_);refine A7 (A6 (A8 Z Z) Z (A6 (F3 Z (.pure _ _ _ _)) Z (E1 (gO 751 Bool S3 false Z Z (by omega) (by omega) (fun _=>by first | exact⟨⟨rfl,rfl⟩,trivial⟩ | exact⟨I7 _ _ _,trivial⟩ | exact⟨I7 _ _ _,⟨rfl,rfl⟩,I7 _ _ _,trivial⟩ | exact⟨⟨rfl,rfl⟩,⟨rfl,rfl⟩,trivial⟩) (by first | rfl | (simp[H3,L2,Ob.free,SV.free,S1.free,TC.free]<;>rfl))) Z ?_)));refine A6 (A9 Z Z) Z (B0 ?_);rw[HS];refine k1 (k2 ?_);refine A7 (A6 (A8 Z Z) Z (A6 (A8 Z Z) Z (A6 (F0 Z Z Z (by omega) (by (rw[IN];omega))) Z ?_)));refine J8 (M7 TySz.out Z Z (by (rw[IN];omega)) Z Z) ?_;refine B0 ?_;rw[HS,<-hz];refine k1 (k2 (k2 ?_));refine A7 (A6 (A8 Z Z) Z (E1 (vG 752 (c:=K4) (ys:=[(c:Int)]) (F6 Z Z Z Z M3) Z Z Z Z Z) Z (A6 (A9 Z Z) Z (B0 ?_))));refine k1 (k3 ?_);refine D3 (X:=List Bool×List Int) (fun x=>([(0,D9 Commit 3 E6 g),(5,.s (.one (.mut 751))),(6,.s (.one (.mut 752)))],[(751,.arr Bool 1 S3 x.1),(752,.grow 3 Int 1 K4 x.2)])) (fun x=>Dfs g c none 0 x.1 x.2/\xD x.1 x.2<=2*g.length) (fun x=>xD x.1 x.2) (z,[(c:Int)]) ⟨Q,am⟩ (Sees.of ⟨B5 rfl,B5 rfl,B5 rfl,trivial⟩ ⟨rfl,rfl,trivial⟩) ?_;rintro⟨C,P⟩ ⟨K,E⟩;dsimp only at K E ⊢;have ae:P.length<=2*g.length:=by unfold xD at E;omega
 refine k2 (k2 ?_);refine A7 (A6 (A8 Z Z) Z (A6 (o5 Z Z) Z (A6 (N1 Z Z) Z (B0 ?_))));refine k1 ?_;refine B2 rfl (fun B=>?_) (fun B=>?_);rotate_left
 ·have ag:P=[]:=List.length_eq_zero_iff.1 (by have J:=A1 B;omega);rw[ag]at K;have T:=K.done hr Y;rw[<-T];refine Q7 (Sees.freeze (k:=751) Z) ?_;refine k6 (k2 ?_);refine A7 (A6 (A8 Z Z) Z (A6 (A9 Z Z) Z (B0 ?_)));refine k1 (I2 ?_);exact B4 (rs:=[oF C]) (G8 rfl rfl rfl) rfl
 have V:0<P.length:=by have J:=A0 B;omega
 obtain⟨r,x,F⟩:∃(r:List Int) (x:Int),P=r++[x]:=⟨P.dropLast,P.getLast (List.length_pos_iff.1 V),(List.dropLast_concat_getLast _).symm⟩
 have O:=K.opn x (by rw[F];simp);obtain⟨j,al⟩:∃n:Nat,x=(n:Int):=⟨x.toNat,by omega⟩
 rw[al]at F O;rw[HS]at O;have G:=oC O.2;rw[K.len]at G;rw[F]at K E ae;have aa:=K.pop;have aq:(r++[(j:Int)]).length=r.length+1:=by simp
 have ak:(r++[(j:Int)])[(((r++[(j:Int)]).length:Int)-1).toNat]?=some (j:Int):=by
  rw[show (((r++[(j:Int)]).length:Int)-1).toNat=r.length by omega,List.getElem?_concat_length]
 have R:(r++[(j:Int)]).take (((r++[(j:Int)]).length:Int)-1).toNat=r:=by
  rw[show (((r++[(j:Int)]).length:Int)-1).toNat=r.length by omega,List.take_left]
 have ad:xD C r+1=xD C (r++[(j:Int)]):=by unfold xD;omega
 obtain⟨q,L⟩:∃q,q=g[j]:=⟨_,rfl⟩
 have aj:g[((j:Nat):Int).toNat]?=some q:=by rw[L,HS];simp[G]
 have M:C6 g j=q.Parents:=by rw[W4 G,L]
 have hpr:=(H2 hr j).1;rw[M]at hpr;have ap:=hF.pars q (by rw[L];exact HT G);subst F;refine k5 (k1 (k3 (k2 ?_)));refine A7 (A6 (A8 Z Z) Z (A6 (A8 Z Z) Z (A6 (o5 Z Z) Z (A6 (bA Z Z (by omega)) Z (A6 (N9 Z Z Z (by omega) (by omega)) Z (A6 (iN Z Z ak Z) Z (A6 (A9 Z Z) Z (B0 ?_))))))));refine k1 (k2 ?_);refine A7 (A6 (A8 Z Z) Z (A6 (A8 Z Z) Z (A6 (o5 Z Z) Z (A6 (bA Z Z (by omega)) Z (E1 (mX Z Z Z (by omega) (by omega) Z) Z (A6 (A9 Z Z) Z (B0 ?_)))))));rw[R];refine k1 (k2 ?_);refine A7 (A6 (A8 Z Z) Z (A6 (A8 Z Z) Z (A6 (B7 Z (.pure _ _ _ _) Z (by omega) aj) Z (A6 (D7 Z) Z (A6 (B9 Z Z) Z (A6 (F3 Z (.pure _ _ _ _)) Z (A6 (A8 Z Z) Z (B0 ?_))))))));refine k1 (k3 ?_);refine D3 (X:=Nat×List Bool×List Int) (fun y=>([(0,D9 Commit 3 E6 g),(5,.s (.one (.mut 751))),(6,.s (.one (.mut 752))),(36,D9 Int 1 K4 q.Parents),(37,D5 q.Parents.length),(38,D5 y.1)],[(751,.arr Bool 1 S3 y.2.1),(752,.grow 3 Int 1 K4 y.2.2)])) (fun y=>y.1<=q.Parents.length/\Dfs g c (some j) y.1 y.2.1 y.2.2/\xD y.2.1 y.2.2<=xD C r) (fun y=>q.Parents.length-y.1) (0,C,r) ⟨Nat.zero_le _,aa,Nat.le_refl _⟩ (Sees.of ⟨B5 rfl,B5 rfl,B5 rfl,B5 rfl,B5 rfl,B5 rfl,trivial⟩ ⟨rfl,rfl,trivial⟩) ?_;rintro⟨k,d,H⟩ ⟨hk,A,D⟩;dsimp only at hk A D ⊢;have an:H.length<=2*g.length:=by unfold xD at D ad E;omega
 have f:=A.len;refine k2 ?_;refine A7 (A6 (E9 Z Z) Z (B0 ?_));refine k1 (k2 ?_);refine B2 rfl (fun B=>?_) (fun B=>?_);rotate_left
 ·have ac:k=q.Parents.length:=by have J:=A1 B;(try dsimp only at J);omega
  rw[ac,<-M]at A;have ab:=A.close;refine k6 (k7 (k7 (k8 Z (k4 (k1 ?_)))));exact⟨(d,H),⟨ab,(by dsimp only;omega)⟩,(by dsimp only;omega),Sees.of ⟨B5 rfl,B5 rfl,B5 rfl,trivial⟩ ⟨rfl,rfl,trivial⟩⟩
 have v:k<q.Parents.length:=by have J:=A0 B;(try dsimp only at J);omega
 have ah:=hpr _ (HT v);obtain⟨p,hp⟩:∃p:Nat,q.Parents[k]=(p:Int):=⟨q.Parents[k].toNat,by omega⟩
 rw[hp]at ah;have W:q.Parents[k]?=some (p:Int):=by rw[HQ v,hp]
 have I:(C6 g j)[k]?=some (p:Int):=by rw[M];exact W
 have U:p<g.length:=by omega
 obtain⟨b,hb⟩:∃b,b=D2 d p:=⟨_,rfl⟩
 have ai:d[((p:Nat):Int).toNat]?=some b:=by rw[hb,HS];exact V3 (by omega)
 refine k5 (k1 (k2 (k3 (k2 ?_))));refine A7 (A6 (B7 Z (.pure _ _ _ _) Z (by omega) W) Z (A6 (B9 Z Z) Z (A6 (A9 Z Z) Z (B0 ?_))));refine k1 (k2 ?_);refine A7 (A6 (A8 Z Z) Z (A6 (A8 Z Z) Z (A6 (F0 Z Z Z (by omega) (by (rw[f];omega))) Z ?_)));refine A6 (O6 Z Z ai Z) Z (A6 (Z4 Z) Z (B0 ?_));refine k1 ?_;refine B2 rfl (fun B=>?_) (fun B=>?_)
 ·have S:D2 d p=false:=by
   rw[<-hb];cases b
   ·rfl
   ·cases B
  have ao:=kB (l:=d) (i:=p) (by omega) S;refine k2 ?_;refine A7 (A6 (A8 Z Z) Z (A6 (A8 Z Z) Z (A6 (F0 Z Z Z (by omega) (by (rw[f];omega))) Z ?_)));refine J8 (M7 TySz.out Z Z (by (rw[f];omega)) Z Z) ?_;refine B0 ?_;rw[HS];refine k1 ?_;refine A7 (A6 (A8 Z Z) Z (A6 (A8 Z Z) Z (A6 (G2 (c:=K4) (ys:=[(p:Int)]) (F6 Z Z Z Z M3) Z Z Z) Z (E1 (rW Z Z Z (.pure _ _ _ _) (by (simp only[HU,IM];omega)) Z) Z (A6 (A9 Z Z) Z (B0 ?_))))));refine k4 (k1 ?_);refine A7 (A6 (E2 Z Z (by omega)) Z (A6 (A8 Z Z) Z (B0 ?_)));refine k1 ?_;refine⟨(k+1,d.set p true,H++[(p:Int)]),⟨v,A.push I U,?_⟩,by dsimp only;omega,(Sees.of ⟨B5 rfl,B5 rfl,B5 rfl,B5 rfl,B5 rfl,B5 rfl,trivial⟩ ⟨rfl,rfl,trivial⟩)⟩;dsimp only;unfold xD at D ⊢;rw[HW,List.length_singleton];omega
 ·have af:D2 d p=true:=by
   rw[<-hb];cases b
   ·cases B
   ·rfl
  refine k5 (k4 (k1 ?_));refine A7 (A6 (E2 Z Z (by omega)) Z (A6 (A8 Z Z) Z (B0 ?_)));refine k1 ?_;exact⟨(k+1,d,H),⟨v,A.skip I (by rw[HS];exact af),D⟩,by dsimp only;omega,(Sees.of ⟨B5 rfl,B5 rfl,B5 rfl,B5 rfl,B5 rfl,B5 rfl,trivial⟩ ⟨rfl,rfl,trivial⟩)⟩
abbrev CR(cov:List Bool):Unit->Nat->Cell:=fun _ _=>.list Bool 1 S3 cov
theorem sV(cov:List Bool)(x:Int)(b:Bool)(d:0<=x)(a:cov[x.toNat]?=some b):AL.Met Tryz.prog 106 [AN x,.one (.eref Unit 1 (CR cov) () 0)] [] [] [] (fun rs ob'=>rs=[yF b]/\ob'=[]):=by
 have c:x.toNat<cov.length:=(List.getElem?_eq_some_iff.1 a).1;refine AL.Met.intro Tryz.func106 (by decide) Z Z Z ?_;refine k2 ?_;refine A7 (A6 (A9 Z Z) Z (B0 ?_));refine k1 (k2 ?_);refine A7 (A6 (B9 Z Z) Z (A6 (A8 Z Z) Z (A6 (B7 Z (.pure _ _ _ _) Z (by omega) a) Z (A6 (B9 Z Z) Z (A6 (A9 Z Z) Z (B0 ?_))))));refine k1 (I2 ?_);exact N4 (x1 rfl rfl) (by repeat (first | exact F4 | refine F5 rfl ?_ | refine H4 _ ?_)) (ObIn.spec (ob':=[]) trivial) ⟨rfl,rfl⟩
theorem nM(f:FuncId)(α:Type)(d:Nat)(c:α->Nat->Cell)(v:α)(l:List Int)(y:l.length<=1073741824)(m:∀x∈l,AL.Met Tryz.prog f [AN x,.one (.eref α d c v 0)] [] [] [] (fun h ob'=>h=[yF false]/\ob'=[])) :
  AL.Met Tryz.prog 158 [.one (.p (.list Int 1 K4 l)),.one (.fncE f α d c v)] [] [] [] (fun h ob'=>h=[AN (-1)]/\ob'=[]):=by
 refine AL.Met.intro Tryz.func158 (by decide) Z Z Z ?_;refine k2 ?_;refine A7 (A6 (A9 Z Z) Z (B0 ?_));refine k1 (k2 (k2 ?_));refine A7 (A6 (A8 Z Z) Z (A6 (F3 Z (.pure _ _ _ _)) Z (A6 (A8 Z Z) Z (B0 ?_))));refine k1 (k3 ?_);refine D3 (X:=Nat) (fun i=>([(0,D9 Int 1 K4 l),(1,.s (.one (.fncE f α d c v))),(7,D5 l.length),(8,D5 i)],[])) (fun i=>i<=l.length) (fun i=>l.length-i) 0 (Nat.zero_le _) (Sees.of ⟨B5 rfl,B5 rfl,B5 rfl,B5 rfl,trivial⟩ trivial) ?_;intro i q;dsimp only at q ⊢;refine k2 ?_;refine A7 (A6 (E9 Z Z) Z (B0 ?_));refine k1 (k2 ?_);refine B2 rfl (fun b=>?_) (fun b=>?_);rotate_left
 ·refine k6 (k2 ?_);refine A7 (A6 (A9 Z Z) Z (B0 ?_));refine k1 (I2 ?_);exact N4 (x1 rfl rfl) (by repeat (first | exact F4 | refine F5 rfl ?_ | refine H4 _ ?_)) (ObIn.spec (ob':=[]) trivial) ⟨rfl,rfl⟩
 have a:i<l.length:=by have k:=A0 b;(try dsimp only at k);omega
 obtain⟨x,j⟩:∃x,x=l[i]:=⟨_,rfl⟩
 have w:l[i]?=some x:=by rw[j];simp[a]
 have g:=m x (by rw[j];exact HT a);refine k5 (k1 (k2 (k3 (k2 ?_))));refine A7 (A6 (A8 Z Z) Z (A6 (A9 Z Z) Z (B0 ?_)));refine k1 (k2 ?_);refine A7 (A6 (A8 Z Z) Z (A6 (A8 Z Z) Z (A6 (A8 Z Z) Z (A6 (B7 Z (.pure _ _ _ _) Z (by omega) w) Z (A6 (B9 Z Z) Z (A6 (AE (g) Z Z Z) Z (B0 ?_)))))));refine k1 ?_;refine B2 rfl (fun b=>?_) (fun b=>?_)
 ·cases b
 ·refine k5 (k4 (k1 ?_));refine A7 (A6 (E2 Z Z (by omega)) Z (A6 (A8 Z Z) Z (B0 ?_)));refine k1 ?_;exact⟨i+1,by omega,by omega,Sees.of ⟨B5 rfl,B5 rfl,B5 rfl,B5 rfl,trivial⟩ trivial⟩
theorem kP(f:FuncId)(α:Type)(a:Nat)(c:α->Nat->Cell)(v:α)(l:List Int)(g:l.length<=1073741824)(d:∀x∈l,AL.Met Tryz.prog f [AN x,.one (.eref α a c v 0)] [] [] [] (fun rs ob'=>rs=[yF false]/\ob'=[])) :
  AL.Met Tryz.prog 105 [.one (.p (.list Int 1 K4 l)),.one (.fncE f α a c v)] [] [] [] (fun rs ob'=>rs=[.one (.p (.list Int 1 K4 l))]/\ob'=[]):=by
 refine AL.Met.intro Tryz.func105 (by decide) Z Z Z ?_;refine k2 ?_;refine A7 (A6 (L7 _ 1 K4) Z (B0 ?_));refine k1 (k2 ?_);refine A7 (A6 (A8 Z Z) Z (A6 (A8 Z Z) Z (lK (nM f α a c v l g d) Z Z Z Z ?_)));rintro _ _ ⟨rfl,rfl⟩;refine⟨rfl,?_⟩;refine A6 (A9 Z Z) Z (B0 ?_);refine k1 (k2 (k2 ?_));refine A7 (A6 (A8 Z Z) Z (A6 (J9 Z Z) Z (B0 ?_)));refine k1 ?_;refine B2 rfl (fun b=>?_) (fun b=>?_);rotate_left
 ·exact absurd rfl (A1 b)
 refine k2 ?_;refine A7 (A6 (A8 Z Z) Z (A6 (A9 Z Z) Z (B0 ?_)));refine k1 (I2 (H9 ?_));exact N4 (x1 rfl rfl) (by repeat (first | exact F4 | refine F5 rfl ?_ | refine H4 _ ?_)) (ObIn.spec (ob':=[]) trivial) ⟨rfl,rfl⟩
def T6(g:Graph)(l:List Int)(k:Nat):List Bool:=Q5 g (l.take k) (List.replicate g.length false)
theorem dR(g:Graph):∀(l:List Int) (c:Int) (a:List Bool),Q5 g (l++[c]) a=I4 g (Q5 g l a) c g.length
 | [],_,_=>rfl
 | d::r,c,a=>by
  rw[IR,Q5,Q5];exact dR g r c _
theorem nN{g:Graph}{l:List Int}{k:Nat}{c:Int}(h:l[k]?=some c):T6 g l (k+1)=I4 g (T6 g l k) c g.length:=by
 unfold T6;rw[List.take_add_one,h,Option.toList_some,dR]
theorem fX(g:Graph):∀(l:List Int) (a:List Bool),(Q5 g l a).length=a.length
 | [],_=>rfl
 | c::r,a=>by rw[Q5,fX g r,S4]
theorem qD(g:Graph)(l:List Int)(k:Nat):(T6 g l k).length=g.length:=by unfold T6;rw[fX,IN]
theorem vW(g:Graph)(l:List Int)(Y:FewG g)(hr:related g=true)(hl:l.length<=1000)(G:∀x∈l,0<=x/\x<(g.length:Int))(J:∀x∈l,D2 (Q5 g l (List.replicate g.length false)) x.toNat=false) :
  FnOk Tryz.prog 62 [E4 g,P5 l] (fun rs=>rs=[P5 l]):=by
 have w:=Y.len;refine FnOk.intro Tryz.func62 (by decide) Z Z Z Z ?_;refine k2 ?_;refine A7 (A6 (L7 _ 1 K4) Z (B0 ?_));refine k1 (k2 ?_);refine A7 (A6 (A8 Z Z) Z (A6 (F3 Z (.pure _ _ _ _)) Z (E1 (gO 751 Bool S3 false Z Z (by omega) (by omega) (fun _=>by first | exact⟨⟨rfl,rfl⟩,trivial⟩ | exact⟨I7 _ _ _,trivial⟩ | exact⟨I7 _ _ _,⟨rfl,rfl⟩,I7 _ _ _,trivial⟩ | exact⟨⟨rfl,rfl⟩,⟨rfl,rfl⟩,trivial⟩) (by first | rfl | (simp[H3,L2,Ob.free,SV.free,S1.free,TC.free]<;>rfl))) Z ?_)));refine E1 (P2 5 Z) Z (J8 (E0 TySz.out Z Z Z Z Z Z) (B0 ?_));rw[HS];refine k1 (k2 (k2 ?_));refine A7 (A6 (A8 Z Z) Z (A6 (F3 Z (.pure _ _ _ _)) Z (A6 (A8 Z Z) Z (B0 ?_))));refine k1 (k3 ?_);refine D3 (X:=Nat) (fun k=>([(0,D9 Commit 3 E6 g),(1,D9 Int 1 K4 l),(5,.s (.one (.ref 5 0))),(13,D9 Int 1 K4 l),(14,D5 l.length),(15,D5 k)],[(5,.box [.mut 751]),(751,.arr Bool 1 S3 (T6 g l k))])) (fun k=>k<=l.length) (fun k=>l.length-k) 0 (Nat.zero_le _) (by dsimp only;rw[show T6 g l 0=List.replicate g.length false by simp[T6,Q5]];exact (Sees.of ⟨B5 rfl,B5 rfl,B5 rfl,B5 rfl,B5 rfl,B5 rfl,trivial⟩ ⟨rfl,rfl,trivial⟩)) ?_;intro k hk;dsimp only at hk ⊢;have I:=qD g l k;refine k2 ?_;refine A7 (A6 (E9 Z Z) Z (B0 ?_));refine k1 (k2 ?_);refine B2 rfl (fun H=>?_) (fun H=>?_);rotate_left
 ·have Q:k=l.length:=by have D:=A1 H;(try dsimp only at D);omega
  obtain⟨cov,E⟩:∃cov,cov=Q5 g l (List.replicate g.length false):=⟨_,rfl⟩
  have O:T6 g l k=cov:=by rw[Q,E];unfold T6;rw[HX]
  rw[<-E]at J;rw[O]at I ⊢
  have hM:=kP 106 Unit 1 (CR cov) () l (by omega) (fun x V=>sV cov x false (G x V).1 (by
   have D:=G x V
   rw[V3 (by omega),J x V]))
  refine Q7 (Sees.freeze (k:=751) Z) ?_;refine Q7 (Sees.shutB (t:=5) (k:=5) (cs:=[Cell.list Bool 1 S3 cov]) (α:=Unit) (c:=CR cov) () Z Z (fun j hj=>by cases j with | zero=>rfl | succ j=>exact absurd hj (by simp))) ?_;refine k6 (k2 ?_);refine A7 (A6 (A8 Z Z) Z (A6 (pL Z) Z (lK (hM) Z Z Z Z ?_)));rintro _ _ ⟨rfl,rfl⟩;refine⟨rfl,?_⟩;refine A6 (A9 Z Z) Z (B0 ?_);refine k1 (I2 ?_);exact B4 (rs:=[P5 l]) (G8 rfl rfl rfl) rfl
 have F:k<l.length:=by have D:=A0 H;(try dsimp only at D);omega
 obtain⟨c,hc⟩:∃c,c=l[k]:=⟨_,rfl⟩
 have hv:l[k]?=some c:=by rw[hc];exact HQ F
 have ac:=G c (by rw[hc];exact HT F);obtain⟨B,M⟩:∃n:Nat,c=(n:Int):=⟨c.toNat,by omega⟩
 subst M;have W:=nL g B Y hr (by omega);have A:=nN (g:=g) hv;obtain⟨R,L⟩:∃R,R=G6 g [(B:Int)]:=⟨_,rfl⟩
 have ab:R.length=g.length:=by rw[L,W5]
 obtain⟨C,hC⟩:∃C,C=T6 g l k:=⟨_,rfl⟩
 rw[<-hC]at A I ⊢;rw[<-L]at W;refine k5 (k1 (k2 (k3 (k2 ?_))));refine A7 (A6 (B7 Z (.pure _ _ _ _) Z (by omega) hv) Z (A6 (B9 Z Z) Z (A6 (A9 Z Z) Z (B0 ?_))));refine k1 (k2 ?_);refine A7 (A6 (A8 Z Z) Z (A6 (A8 Z Z) Z (C9 (W) Z Z Z ?_)));rintro _ rfl;refine A6 (F3 Z (.pure _ _ _ _)) Z (A6 (A8 Z Z) Z (B0 ?_));refine k1 (k3 ?_);refine D3 (X:=Nat) (fun i=>([(0,D9 Commit 3 E6 g),(1,D9 Int 1 K4 l),(5,.s (.one (.ref 5 0))),(7,D5 B),(13,D9 Int 1 K4 l),(14,D5 l.length),(15,D5 k),(21,D9 Bool 1 S3 R),(22,D5 R.length),(23,D5 i)],[(5,.box [.mut 751]),(751,.arr Bool 1 S3 (I4 g C B i))])) (fun i=>i<=g.length) (fun i=>g.length-i) 0 (Nat.zero_le _) (by dsimp only;rw[tM];exact (Sees.of ⟨B5 rfl,B5 rfl,B5 rfl,B5 rfl,B5 rfl,B5 rfl,B5 rfl,B5 rfl,B5 rfl,B5 rfl,trivial⟩ ⟨rfl,rfl,trivial⟩)) ?_;intro i hi;dsimp only at hi ⊢;have q:=S4 g C B i;refine k2 ?_;refine A7 (A6 (E9 Z Z) Z (B0 ?_));refine k1 (k2 ?_);refine B2 rfl (fun H=>?_) (fun H=>?_);rotate_left
 ·have P:i=g.length:=by have D:=A1 H;(try dsimp only at D);omega
  refine k6 (k7 (k7 (k8 Z (k4 (k1 ?_)))));refine A7 (A6 (E2 Z Z (by omega)) Z (A6 (A8 Z Z) Z (B0 ?_)));refine k1 ?_;refine⟨k+1,by omega,by omega,?_⟩;rw[A,<-P];exact (Sees.of ⟨B5 rfl,B5 rfl,B5 rfl,B5 rfl,B5 rfl,B5 rfl,trivial⟩ ⟨rfl,rfl,trivial⟩)
 have aa:i<g.length:=by have D:=A0 H;(try dsimp only at D);omega
 obtain⟨b,hb⟩:∃b,b=D2 R i:=⟨_,rfl⟩
 have T:R[i]?=some b:=by rw[hb];exact V3 (by omega)
 obtain⟨o,ho⟩:∃o,o=D2 (I4 g C B i) i:=⟨_,rfl⟩
 have U:(I4 g C B i)[((i:Nat):Int).toNat]?=some o:=by rw[ho,HS];exact V3 (by rw[q];omega)
 have K:=tN (g:=g) (cov:=C) (c:=(B:Int)) (n:=i) (by omega);rw[<-ho,<-L,<-hb]at K;refine k5 (k1 (k2 (k3 (k2 ?_))));refine A7 (A6 (A8 Z Z) Z (A6 (B7 Z (.pure _ _ _ _) Z (by omega) T) Z (A6 (B9 Z Z) Z (A6 (A9 Z Z) Z (A6 (A9 Z Z) Z (B0 ?_))))));refine k1 ?_;refine M6 (by kernel_rfl) (by kernel_rfl) (D6 (B8 Z Z Z) Z Z (D6 (A8 Z Z) Z Z (D6 (B8 Z Z Z) Z Z (D6 (A8 Z Z) Z Z (D6 (F0 Z Z Z (by omega) (by (rw[q];omega))) Z Z ?_)))));refine D6 (O6 Z Z U Z) Z Z (D6 (A8 Z Z) Z Z (E5 Z Z (fun w=>by rw[w];exact A8 Z Z) Z Z ?_));refine E5 Z Z (fun w=>by rw[w];exact A8 Z Z) Z Z ?_;refine iD Z Z (.gd (.val _)) (fun w=>by obtain⟨y,z⟩:=W9 w;(try rw[y]);(try rw[z]);exact A8 Z Z) Z Z ?_;refine iD Z Z (.gd (.val _)) (fun w=>by obtain⟨y,z⟩:=W9 w;(try rw[y]);(try rw[z]);exact A8 Z Z) Z Z ?_;refine iD Z Z (.gd (.val _)) (fun w=>by obtain⟨y,z⟩:=W9 w;(try rw[y]);(try rw[z]);exact L8 Z Z) Z Z ?_;refine E5 Z Z (fun w=>by rw[w];exact B6 Z (fun h=>by first | rfl | (rw[h];rfl)) (fun h=>by first | rfl | (rw[h];rfl))) Z Z ?_;refine D6 (B6 Z (fun h=>by first | rfl | (rw[h];rfl)) (fun h=>by first | rfl | (rw[h];rfl))) Z Z ?_;refine D6 (F0 Z Z Z (by omega) (by (rw[q];omega))) Z Z ?_;refine EV (M7 TySz.out Z Z (by (rw[q];omega)) Z Z) Z ?_;refine dB ?_;refine k4 (k1 ?_);have S:(if o=true then true else if b=true then decide ((i:Int)≠(B:Int)) else false)=(o||(b&&decide ((i:Int)≠(B:Int)))):=by cases o<;>cases b<;>rfl
 rw[S,HS];refine A7 (A6 (E2 Z Z (by omega)) Z (A6 (A8 Z Z) Z (B0 ?_)));refine k1 ?_;refine⟨i+1,by omega,by omega,?_⟩;rw[<-K];exact (Sees.of ⟨B5 rfl,B5 rfl,B5 rfl,B5 rfl,B5 rfl,B5 rfl,B5 rfl,B5 rfl,B5 rfl,B5 rfl,trivial⟩ ⟨rfl,rfl,trivial⟩)
theorem vX(g:Graph)(a b:Nat)(h:FewT g)(G:G4 g=0)(ha:a<g.length)(hb:b<g.length)(F:FnOk Tryz.prog 62 [E4 g,P5 (M5 g a b g.length)] (fun rs=>rs=[P5 (eL g a b)])) :
  FnOk Tryz.prog 23 [E4 g,D0 a,D0 b] (fun rs=>rs=[P5 (eL g a b),D0 0]):=by
 have v:=h.few;have k:=v.len;have I:=jX G
 have J:=qC g [(a:Int),(b:Int)] h G (by simp) (fun x m=>by
  rcases HZ.1 m with rfl | m
  ·exact⟨by omega,by omega⟩
  ·rw[List.mem_singleton.1 m];exact⟨by omega,by omega⟩)
 have D:=nL g a v I.rel ha;have E:=nL g b v I.rel hb;obtain⟨R,K⟩:∃R,R=eL g a b:=⟨_,rfl⟩
 obtain⟨x,m⟩:∃x,x=G6 g [(a:Int)]:=⟨_,rfl⟩
 obtain⟨y,C⟩:∃y,y=G6 g [(b:Int)]:=⟨_,rfl⟩
 have O:x.length=g.length:=by rw[m,W5]
 have P:y.length=g.length:=by rw[C,W5]
 rw[<-m]at D;rw[<-C]at E;rw[<-K]at F ⊢;refine FnOk.intro Tryz.func23 (by decide) Z Z Z Z ?_;refine k2 ?_;refine A7 (A6 (L7 _ 1 K4) Z (A6 (A9 Z Z) Z (B0 ?_)));refine k1 (k2 (k2 ?_));refine A7 (A6 (A8 Z Z) Z (A6 (A8 Z Z) Z (A6 (A8 Z Z) Z (A6 (G2 (c:=K4) (ys:=[(a:Int),(b:Int)]) (F6 Z Z Z Z (F6 Z Z Z Z M3)) Z Z Z) Z (C9 (J) Z Z Z ?_)))));rintro _ rfl;refine A6 (A9 Z Z) Z (B0 ?_);refine k1 (k2 ?_);refine A7 (A6 (A8 Z Z) Z (A6 (L8 Z Z) Z (B0 ?_)));refine k1 ?_;refine B2 rfl (fun j=>?_) (fun j=>?_)
 ·exact absurd rfl (A0 j)
 refine k5 (k1 (k2 ?_));refine A7 (A6 (A8 Z Z) Z (A6 (A8 Z Z) Z (C9 (D) Z Z Z ?_)));rintro _ rfl;refine A6 (A8 Z Z) Z (A6 (A8 Z Z) Z (C9 (E) Z Z Z ?_));rintro _ rfl;refine A6 (A9 Z Z) Z (A6 (A9 Z Z) Z (B0 ?_));refine k1 (k2 ?_);refine A7 (E1 (gN 11 _ K4 Z) Z (B0 ?_));refine k1 (k2 (k2 ?_));refine A7 (A6 (A8 Z Z) Z (A6 (F3 Z (.pure _ _ _ _)) Z (A6 (A8 Z Z) Z (B0 ?_))));refine k1 (k3 ?_);refine D3 (X:=Nat) (fun i=>([(0,D9 Commit 3 E6 g),(9,D9 Bool 1 S3 x),(10,D9 Bool 1 S3 y),(11,.s (.one (.buf 11 Int 1 K4 (M5 g a b i)))),(28,D5 g.length),(29,D5 i)],[(11,.spare (M5 g a b i).length 1 3)])) (fun i=>i<=g.length) (fun i=>g.length-i) 0 (Nat.zero_le _) (Sees.of ⟨B5 rfl,B5 rfl,B5 rfl,B5 rfl,B5 rfl,B5 rfl,trivial⟩ ⟨rfl,trivial⟩) ?_;intro i M;dsimp only at M ⊢;have L:=tL g a b i;refine k2 ?_;refine A7 (A6 (E9 Z Z) Z (B0 ?_));refine k1 (k2 ?_);refine B2 rfl (fun j=>?_) (fun j=>?_);rotate_left
 ·have z:i=g.length:=by have q:=A1 j;(try dsimp only at q);omega
  rw[z];refine k6 (k2 ?_);refine A7 (A6 (A8 Z Z) Z (A6 (A8 Z Z) Z (C9 (F) Z Z Z ?_)));rintro _ rfl;refine A6 (A9 Z Z) Z (A6 (A9 Z Z) Z (B0 ?_));refine k1 (I2 ?_);exact B4 (rs:=[P5 R,D0 0]) (i7 rfl rfl rfl rfl rfl) rfl
 have H:i<g.length:=by have q:=A0 j;(try dsimp only at q);omega
 have A:x[i]?=some (D2 x i):=V3 (by omega);have B:y[i]?=some (D2 y i):=V3 (by omega);have d:=rI g a b i;have w:kC g a b i=(D2 x i&&D2 y i):=by unfold kC;rw[m,C]
 rw[w]at d;refine k5 (k1 (k2 (k3 (k2 ?_))));refine A7 (A6 (A8 Z Z) Z (A6 (A9 Z Z) Z (B0 ?_)));refine k1 (k2 ?_);refine A7 (A6 (A8 Z Z) Z (A6 (A8 Z Z) Z (A6 (B7 Z (.pure _ _ _ _) Z (by omega) A) Z (A6 (B9 Z Z) Z (A6 (A8 Z Z) Z (B1 Z Z Z Z (fun k=>by rw[k];exact A8 Z Z) ?_))))));refine B1 Z Z Z Z (fun k=>by rw[k];exact A8 Z Z) ?_;refine B1 Z Z Z Z (fun k=>by have N:=k;(try simp at N);rw[k];exact B7 Z (.pure _ _ _ _) Z (by omega) B) ?_;refine B1 Z Z Z Z (fun k=>by rw[k];exact B9 Z Z) ?_;refine A6 (B6 Z (fun h=>by first | rfl | (rw[h];rfl)) (fun h=>by first | rfl | (rw[h];rfl))) Z ?_;refine B0 ?_;refine k1 ?_;refine B2 rfl (fun j=>?_) (fun j=>?_)
 ·rw[bP]at j;rw[A4 j]at d;refine oT [(0,D9 Commit 3 E6 g),(9,D9 Bool 1 S3 x),(10,D9 Bool 1 S3 y),(11,.s (.one (.buf 11 Int 1 K4 (M5 g a b i)))),(12,D5 i),(28,D5 g.length),(29,D5 i)] [(11,.spare (M5 g a b i).length 1 3)] (Sees.of ⟨B5 rfl,B5 rfl,B5 rfl,B5 rfl,B5 rfl,B5 rfl,B5 rfl,trivial⟩ ⟨rfl,trivial⟩) ?_;skip;refine A7 (A6 (A8 Z Z) Z (A6 (A8 Z Z) Z (A6 (G2 (c:=K4) (ys:=[(i:Int)]) (F6 Z Z Z Z M3) Z Z Z) Z (E1 (k9 Z Z Z (.pure _ _ _ _) (by (simp only[HU,IM];omega)) Z) Z (A6 (A9 Z Z) Z (B0 ?_))))));rw[<-d];refine k4 (k1 ?_);refine A7 (A6 (E2 Z Z (by omega)) Z (A6 (A8 Z Z) Z (B0 ?_)));refine k1 ?_;refine⟨i+1,by omega,by omega,?_⟩;rw[d];exact (Sees.of ⟨B5 rfl,B5 rfl,B5 rfl,B5 rfl,B5 rfl,B5 rfl,trivial⟩ ⟨rfl,trivial⟩)
 ·rw[bP]at j;rw[A5 (by rw[j];decide)]at d;refine k5 (k4 (k1 ?_));refine A7 (A6 (E2 Z Z (by omega)) Z (A6 (A8 Z Z) Z (B0 ?_)));refine k1 ?_;refine⟨i+1,by omega,by omega,?_⟩;rw[d];exact (Sees.of ⟨B5 rfl,B5 rfl,B5 rfl,B5 rfl,B5 rfl,B5 rfl,trivial⟩ ⟨rfl,trivial⟩)
abbrev sW:Graph:=[⟨[],0,[⟨[120],[97,10,98,10]⟩]⟩,⟨[0],0,[⟨[120],[97,10,99,10]⟩]⟩]
theorem g33_few:FewT sW:=⟨⟨by decide,by decide⟩,fun c a=>by
 rcases HZ.1 a with rfl | a
 ·exact⟨by decide,by decide,by decide⟩
 ·rw[List.mem_singleton.1 a];exact⟨by decide,by decide,by decide⟩⟩
abbrev wB:List Str:=[[98,97,115,101,115],[48],[49]]
abbrev cB:Cmd:=⟨9,0,1,0,false,[]⟩
abbrev wZ:List Str:=[[122,97,112]]
theorem EZ:P3 [0]=[99,111,109,109,105,116,32,48,10]:=by
 unfold P3 zB c8 s5 c7 gS;simp only[HU,IM,List.take,IC,JG,wC 0 (by decide) (by decide)];decide
theorem CS:U1 320=[51,50,48]:=by
 unfold U1 Lib.itoa;rw[A5 (by decide),A5 (by decide)];have h:Lib.decDigits (320:Int).toNat=[51,50,48]:=by
  rw[Lib.decDigits,dif_neg (by decide),Lib.decDigits,dif_neg (by decide),Lib.decDigits,dif_pos (by decide)];decide
 exact h
theorem yN:eF 320=[101,114,114,111,114,32,51,50,48,10]:=by unfold eF;rw[CS];rfl
theorem AQ:FnOk Tryz.prog 23 [E4 sW,D0 0,D0 1] (fun d=>d=[P5 [0],D0 0]):=by
 have b:M5 sW 0 1 2=[0]:=by kernel_rfl
 have a:=vW sW [0] g33_few.few (by kernel_rfl) (by decide) (by decide) (fun x c=>by rw[List.mem_singleton.1 c];kernel_rfl)
 have h:=vX sW 0 1 g33_few (by kernel_rfl) (by decide) (by decide) (by
  show FnOk _ _ [E4 sW,P5 (M5 sW 0 1 2)] _;rw[b,show eL sW 0 1=[0] by kernel_rfl]
  exact a)
 rw[show eL sW 0 1=[0] by kernel_rfl]at h;exact h
theorem yO:FnOk Tryz.prog 54 [E4 sW,F9 (I9 wB)] (fun rs=>rs=[F9 (X2 (I9 wB) (P3 [0]) 0)]):=by
 have a:=iZ wB (by decide) (by decide) (by decide);rw[show cO wB=(cB,0) by kernel_rfl]at a;have b:=CQ sW cB (P3 [0]) 0 g33_few (by kernel_rfl) (by decide) (by kernel_rfl) (by decide) (fun _=>by decide) (by decide) ⟨fun h=>absurd h (by decide),fun h=>absurd h (by decide),fun h=>absurd h (by decide),fun h=>absurd h (by decide),fun h=>absurd h (by decide),fun h=>absurd h (by decide),fun _=>⟨[0],by decide,rfl,AQ⟩⟩;exact fW sW (I9 wB) cB 0 (P3 [0]) 0 (by decide) (by rw[EZ];decide) a fun _=>b
theorem qE(g:Graph)(a:List Str)(b:a≠[])(d:∀w∈a,w≠[]/\w.all L0=true/\w.length<=1048576)(f:(I9 a).length<=65536)(h:cO a=(cN,320)) :
  FnOk Tryz.prog 54 [E4 g,F9 (I9 a)] (fun rs=>rs=[F9 (X2 (I9 a) [] 320)]):=by
 have c:=iZ a b d (by omega);rw[h]at c;exact fW g (I9 a) cN 320 [] 320 f (by simp) c fun h=>absurd h (by decide)
abbrev FA:Str:=[62,32,98,97,115,101,115,32,48,32,49,10,99,111,109,109,105,116,32,48,10,62,32,122,97,112,10,101,114,114,111,114,32,51,50,48,10]
theorem cI:FnOk Tryz.prog 20 [] (fun rs=>rs=[G1 true]):=by
 have p:=qE sW wZ (by decide) (by decide) (by decide) (by kernel_rfl);have k:[X2 (I9 wB) (P3 [0]) 0,X2 (I9 wZ) [] 320].flatten=FA:=by
  unfold X2;rw[EZ,yN];decide
 have j:=uJ sW [98,97,115,101,115,32,48,32,49,10,122,97,112] [I9 wB,I9 wZ] [X2 (I9 wB) (P3 [0]) 0,X2 (I9 wZ) [] 320] g33_few (by kernel_rfl) (by decide) (by kernel_rfl) rfl (fun i m o b d=>by
  match i,b,d with
  | 0,b,d=>cases b;cases d;exact yO
  | 1,b,d=>cases b;cases d;exact p
  | i+2,b,_=>simp at b) (by rw[k];decide) (by decide)
 rw[k]at j;refine FnOk.intro Tryz.func20 (by decide) Z Z Z Z ?_;refine k2 ?_;refine A7 (A6 (A9 Z Z) Z (B0 ?_));refine k1 (k2 ?_);refine A7 (A6 (J2 Z) Z (A6 (G2 (c:=V4) (ys:=[(⟨[120],[97,10,98,10]⟩:File)]) (F6 Z Z Z Z M3) Z Z Z) Z (A6 (J2 Z) Z (A6 (G2 (c:=K4) (ys:=[(0:Int)]) (F6 Z Z Z Z M3) Z Z Z) Z (A6 (J2 Z) Z (A6 (G2 (c:=V4) (ys:=[(⟨[120],[97,10,99,10]⟩:File)]) (F6 Z Z Z Z M3) Z Z Z) Z (A6 (J2 Z) Z (CD ((HP Int 1 K4 6 0 Z Z)) (A6 (G2 (c:=E6) (ys:=sW) (F6 Z Z Z Z (F6 Z Z Z Z M3)) Z Z Z) Z (A6 (A9 Z Z) Z (B0 ?_)))))))))));refine k1 (k2 ?_);refine A7 (A6 (A8 Z Z) Z (C9 (j) Z Z Z ?_));rintro _ rfl;refine A6 (A8 Z Z) Z (A6 (C1 Z Z) Z (A6 (C1 Z Z) Z (A6 (A9 Z Z) Z (A6 (A9 Z Z) Z (B0 ?_)))));refine k1 (k2 ?_);refine A7 (A6 (A8 Z Z) Z (A6 (J9 Z Z) Z (A6 (A8 Z Z) Z (B1 Z Z Z Z (fun g=>by rw[g];exact A8 Z Z) ?_))));refine B1 Z Z Z Z (fun g=>by rw[g];exact S8 Z Z) ?_;refine A6 (B6 Z (fun h=>by first | rfl | (rw[h];rfl)) (fun h=>by first | rfl | (rw[h];rfl))) Z ?_;refine A6 (A9 Z Z) Z (B0 ?_);refine k1 (I2 ?_);exact B4 (rs:=[G1 true]) (G8 rfl rfl rfl) rfl
def bangs(n:Nat):Str:=(List.replicate n ([33,10]:Str)).flatten
theorem jB(n:Nat):bangs (n+1)=bangs n++[33,10]:=by
 unfold bangs;rw[List.replicate_succ',JP];simp
theorem lX(n:Nat):(bangs n).length=2*n:=by
 induction n with
 | zero=>rfl
 | succ n a=>rw[jB,HW,a];simp;omega
abbrev wX:List Str:=[[33]]
theorem vY(m:Nat)(h:m=100\/m=101):∃o,FnOk Tryz.prog 21 [.one (.v (.slice none 0 0)),F9 (bangs m)] (fun rs=>rs=[F9 o,D0 (if m=101 then 1 else 0)]):=by
 have f:G4 []=0:=by kernel_rfl
 have d:FewT []:=⟨⟨by decide,by decide⟩,fun c t=>by cases t⟩
 have r:=lX m;rcases h with rfl | rfl
 ·have q:=qE [] wX (by decide) (by decide) (by decide) (by kernel_rfl)
  have b:=uJ [] (bangs 100) (List.replicate 100 (I9 wX)) (List.replicate 100 (X2 (I9 wX) [] 320)) d f (by omega) (by kernel_rfl) (by rw[IN,IN]) (fun i g o k p=>by
   have a:=(List.mem_replicate.1 (IP k)).2;have j:=(List.mem_replicate.1 (IP p)).2;rw[a,j]
   exact q) (by
   unfold X2;rw[yN]
   decide) (by rw[IN];decide)
  exact⟨_,HG b⟩
 ·have a:(s7 (bangs 101)).2=1:=by kernel_rfl
  have b:=yM [] (bangs 101) d f (by omega) (by rw[a];decide);rw[a]at b;exact⟨_,HG b⟩
theorem nO(g:Graph)(c:Cmd)(s:Str)(n:Int)(I:g.length<=5->FewT g):FnOk Tryz.prog 5 [E4 g,j7 c,F9 s,D0 n] (fun rs=>rs=[G1 true]):=by
 have G:=pM n (n:=2) (by omega);have l:=CO n 2 (by omega) (by omega);obtain⟨k,M⟩:∃k:Nat,lN n 2=(k:Int):=⟨(lN n 2).toNat,by omega⟩
 rw[M]at G l;obtain⟨m,Q⟩:∃m,m=100+k:=⟨_,rfl⟩
 obtain⟨o,J⟩:=vY m (by omega);have C:=lX;refine FnOk.intro Tryz.func5 (by decide) Z Z Z Z ?_;refine k2 ?_;refine A7 (E1 (bC 5 Z Z Z) Z (A6 (A9 Z Z) Z (B0 ?_)));refine k1 (k2 (k2 ?_));refine A7 (A6 (A8 Z Z) Z (A6 (F3 Z (.pure _ _ _ _)) Z (A6 (N1 Z Z) Z (A6 (A8 Z Z) Z (B1 Z Z Z Z (fun d=>by rw[d];exact A8 Z Z) ?_)))));refine B1 Z Z Z Z (fun d=>by rw[d];exact H1 Z) ?_;refine B1 Z Z Z Z (fun d=>by rw[d];exact N1 Z Z) ?_;refine A6 (B6 Z (fun h=>by first | rfl | (rw[h];rfl)) (fun h=>by first | rfl | (rw[h];rfl))) Z ?_;refine A6 (A8 Z Z) Z (B1 Z Z Z Z (fun d=>by rw[d];exact B3 Z) ?_);refine B1 Z Z Z Z (fun d=>by rw[d];exact B8 Z Z Z) ?_;refine B1 Z Z Z Z (fun d=>by rw[d];exact H1 Z) ?_;refine B1 Z Z Z Z (fun d=>by rw[d];exact N1 Z Z) ?_;refine A6 (B6 Z (fun h=>by first | rfl | (rw[h];rfl)) (fun h=>by first | rfl | (rw[h];rfl))) Z ?_;refine B0 ?_;refine k1 ?_;refine B2 rfl (fun j=>?_) (fun j=>?_)
 ·refine k2 ?_;refine A7 (C9 (cI) Z Z Z ?_);rintro _ rfl;refine A6 (A9 Z Z) Z (B0 ?_);refine k1 (I2 (H9 ?_));exact B4 (rs:=[G1 true]) (G8 rfl rfl rfl) rfl
 have E:g.length<=5:=by
  rw[or_pick,or_pick]at j;have:=A1 j;omega
 have q:=I E;refine oT [(0,D9 Commit 3 E6 g),(2,L6 s),(3,D5 n),(5,.s (.one (.ref 5 0)))] [(5,.box (z7 c))] (Sees.of ⟨B5 rfl,B5 rfl,B5 rfl,B5 rfl,trivial⟩ ⟨rfl,trivial⟩) ?_;refine k5 (k1 (k2 ?_));refine A7 (A6 (A9 Z Z) Z (B0 ?_));refine k1 (k2 (k2 ?_));refine A7 (A6 (A9 Z Z) Z (B0 ?_));refine k1 (k3 ?_);refine D3 (X:=Nat) (fun i=>([(0,D9 Commit 3 E6 g),(2,L6 s),(3,D5 n),(5,.s (.one (.ref 5 0))),(9,L6 (bangs i)),(10,D5 i)],[(5,.box (z7 c))])) (fun i=>i<=m) (fun i=>m-i) 0 (Nat.zero_le _) (Sees.of ⟨B5 rfl,B5 rfl,B5 rfl,B5 rfl,B5 rfl,B5 rfl,trivial⟩ ⟨rfl,trivial⟩) ?_;intro i L;dsimp only at L ⊢;have K:=C i;refine k2 (k2 ?_);refine A7 (A6 (A8 Z Z) Z (A6 (A8 Z Z) Z (C9 (l) Z Z Z ?_)));rintro _ rfl;refine A6 (E2 Z Z (by omega)) Z (A6 (E9 Z Z) Z (B0 ?_));refine k1 ?_;refine B2 rfl (fun j=>?_) (fun j=>?_)
 ·have O:i<m:=by have v:=A0 j;(try dsimp only at v);omega
  refine k5 (k1 (k2 (k3 ?_)));refine A7 (A6 (A8 Z Z) Z (A6 (L9 Z Z (by (simp;omega))) Z (A6 (A9 Z Z) Z (B0 ?_))));rw[<-jB];refine k4 (k1 ?_);refine A7 (A6 (A8 Z Z) Z (A6 (E2 Z Z (by omega)) Z (A6 (A9 Z Z) Z (B0 ?_))));refine k1 ?_;exact⟨i+1,by omega,by omega,Sees.of ⟨B5 rfl,B5 rfl,B5 rfl,B5 rfl,B5 rfl,B5 rfl,trivial⟩ ⟨rfl,trivial⟩⟩
 have F:i=m:=by have v:=A1 j;(try dsimp only at v);omega
 rw[F];refine k6 (k2 ?_);refine A7 (A6 (A8 Z Z) Z (C9 (J) Z Z Z ?_));rintro _ rfl;refine A6 (A8 Z Z) Z (A6 (C1 Z Z) Z (A6 (C1 Z Z) Z (A6 (A9 Z Z) Z (A6 (A9 Z Z) Z (B0 ?_)))));refine k1 (k2 ?_);refine A7 (A6 (A9 Z Z) Z (B0 ?_));refine k1 (k2 (k2 ?_));refine A7 (A6 (A8 Z Z) Z (C9 (l) Z Z Z ?_));rintro _ rfl;refine A6 (J9 Z Z) Z (B0 ?_);obtain⟨e,z⟩:∃e:Int,e=if m=101 then 1 else 0:=⟨_,rfl⟩
 rw[<-z];refine k1 ?_;refine aK [(0,D9 Commit 3 E6 g),(2,L6 s),(5,.s (.one (.ref 5 0))),(12,D5 e),(13,D5 e)] [(5,.box (z7 c))] ?_ ?_
 ·skip;refine B2 rfl (fun j=>?_) (fun j=>?_)
  ·have v:(k:Int)=1:=A0 j;rw[A4 (by omega)]at z;rw[z];skip;refine A7 (A6 (A9 Z Z) Z (B0 ?_));refine k1 ?_;exact Sees.of ⟨B5 rfl,B5 rfl,B5 rfl,B5 rfl,B5 rfl,trivial⟩ ⟨rfl,trivial⟩
  ·have v:¬(k:Int)=1:=A1 j;rw[A5 (by omega)]at z;rw[z];refine k5 (k1 ?_);exact Sees.of ⟨B5 rfl,B5 rfl,B5 rfl,B5 rfl,B5 rfl,trivial⟩ ⟨rfl,trivial⟩
 refine k2 (k2 ?_);refine A7 (A6 (A8 Z Z) Z (A6 (A8 Z Z) Z (A6 (L8 Z Z) Z (B0 ?_))));refine k1 ?_;refine B2 rfl (fun j=>?_) (fun j=>?_)
 ·exact absurd rfl (A0 j)
 have B:=AM g q;obtain⟨D,H⟩:∃D,D=G4 g:=⟨_,rfl⟩
 have w:=AO g c q;have y:=yL g s q;rw[<-H]at B w y;refine k5 (k1 (k2 (k2 ?_)));refine A7 (A6 (A8 Z Z) Z (C9 (B) Z Z Z ?_));rintro _ rfl;refine A6 (J9 Z Z) Z (B0 ?_);refine k1 ?_;refine B2 rfl (fun j=>?_) (fun j=>?_)
 ·refine k2 ?_;refine A7 (C9 (cI) Z Z Z ?_);rintro _ rfl;refine A6 (A9 Z Z) Z (B0 ?_);refine k1 (I2 (H9 ?_));exact B4 (rs:=[G1 true]) (G8 rfl rfl rfl) rfl
 have A:D≠0:=A1 j;refine k5 (k1 (k2 ?_));refine A7 (A6 (A8 Z Z) Z (A6 (G7 Z Z Z) Z (C9 ((w A)) Z Z Z ?_)));rintro _ rfl;refine A6 (A8 Z Z) Z (A6 (C1 Z Z) Z (A6 (C1 Z Z) Z (A6 (A9 Z Z) Z (A6 (A9 Z Z) Z (B0 ?_)))));refine k1 (k2 ?_);refine A7 (A6 (A8 Z Z) Z (A6 (A8 Z Z) Z (C9 ((y A)) Z Z Z ?_)));rintro _ rfl;refine A6 (A8 Z Z) Z (A6 (C1 Z Z) Z (A6 (C1 Z Z) Z (A6 (A9 Z Z) Z (A6 (A9 Z Z) Z (B0 ?_)))));refine k1 (k2 ?_);refine A7 (A6 (A8 Z Z) Z (A6 (A8 Z Z) Z (C9 (B) Z Z Z ?_)));rintro _ rfl;refine A6 (J9 Z Z) Z (A6 (A8 Z Z) Z (B1 Z Z Z Z (fun d=>by rw[d];exact A8 Z Z) ?_));refine B1 Z Z Z Z (fun d=>by rw[d];exact A8 Z Z) ?_;refine B1 Z Z Z Z (fun d=>by rw[d];exact J9 Z Z) ?_;refine A6 (B6 Z (fun h=>by first | rfl | (rw[h];rfl)) (fun h=>by first | rfl | (rw[h];rfl))) Z ?_;refine A6 (A8 Z Z) Z (B1 Z Z Z Z (fun d=>by rw[d];exact A8 Z Z) ?_);refine B1 Z Z Z Z (fun d=>by rw[d];exact S8 Z Z) ?_;refine A6 (B6 Z (fun h=>by first | rfl | (rw[h];rfl)) (fun h=>by first | rfl | (rw[h];rfl))) Z ?_;refine A6 (A8 Z Z) Z (B1 Z Z Z Z (fun d=>by rw[d];exact A8 Z Z) ?_);refine B1 Z Z Z Z (fun d=>by rw[d];exact S8 Z Z) ?_;refine A6 (B6 Z (fun h=>by first | rfl | (rw[h];rfl)) (fun h=>by first | rfl | (rw[h];rfl))) Z ?_;refine A6 (A8 Z Z) Z (B1 Z Z Z Z (fun d=>by have P:=d;(try simp at P);rw[d];exact M2 (cI) Z Z) ?_);refine A6 (B6 Z (fun h=>by first | rfl | (rw[h];rfl)) (fun h=>by first | rfl | (rw[h];rfl))) Z ?_;refine A6 (A9 Z Z) Z (B0 ?_);refine k1 (I2 ?_);exact B4 (G8 rfl rfl rfl) (by simp)
end Go.Proofs.YtbflhoahmmfkmaaGreatDoor
