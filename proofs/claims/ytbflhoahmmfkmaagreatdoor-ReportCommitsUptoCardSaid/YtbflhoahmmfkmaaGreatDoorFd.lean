/- Walks of the program's functions. -/
import Derived.Test.YtbflhoahmmfkmaaGreatDoorFc
set_option linter.all false
namespace Go.Proofs.YtbflhoahmmfkmaaGreatDoor
open Go Go.AL
set_option maxRecDepth 100000
set_option maxHeartbeats 2000000
def O0(l:List Int):Str:=KY (l.map fun c=>[c])
structure DoArm (g:Graph) (c:Cmd) (out:Str) (e:Int):Prop where
 log:c.Kind=1->∃l:List Int,l.length<=1000/\out=O0 l/\FnOk Tryz.prog 17 [F4 g,K0 [c.A]] (fun rs=>rs=[K0 l,E6 e])
 diff:c.Kind=3->FnOk Tryz.prog 35 [F4 g,dN c] (fun rs=>rs=[H1 out,E6 e])
 merge:c.Kind=4->FnOk Tryz.prog 36 [F4 g,dN c] (fun rs=>rs=[H1 out,E6 e])
 lit:c.Kind=5->∃l:List Int,l.length<=1000/\out=O0 l/\FnOk Tryz.prog 24 [F4 g,E6 c.A,H1 c.Text] (fun rs=>rs=[K0 l,E6 e])
 lines:c.Kind=7->FnOk Tryz.prog 38 [F4 g,dN c] (fun rs=>rs=[H1 out,E6 e])
 blame:c.Kind=8->FnOk Tryz.prog 39 [F4 g,dN c] (fun rs=>rs=[H1 out,E6 e])
 bases:c.Kind=9->∃l:List Int,l.length<=1000/\out=O0 l/\FnOk Tryz.prog 23 [F4 g,E6 c.A,E6 c.B] (fun rs=>rs=[K0 l,E6 e])
theorem vO(g:Graph)(c:Cmd)(t:Str)(e:Int)(h:FewT g)(H:K2 g=0)(z:c.Text.length<=1048576)(I:(x4 c).2=0)(C:S5 g c.A)(G:c.Kind=3\/c.Kind=9->S5 g c.B)(R:1<=c.Kind/\c.Kind<=9/\c.Kind≠2/\c.Kind≠6)(p:DoArm g c t e) :
  FnOk Tryz.prog 11 [F4 g,dN c] (fun rs=>rs=[H1 t,E6 e]):=by
 have D:=nZ g h;rw[H]at D;have E:=GI c z;rw[I]at E;refine FnOk.intro Tryz.func11 (by decide) Z Z Z Z ?_;refine k2 ?_;refine A7 (D3 (dE 3 Z Z Z) Z (A6 (A9 Z Z) Z (A6 (A9 Z Z) Z (B0 ?_))));refine k1 (k2 (k2 ?_));refine A7 (A6 (A8 Z Z) Z (C8 (D) Z Z Z ?_));rintro _ rfl;refine A6 (A9 Z Z) Z (B0 ?_);refine k1 (k2 ?_);refine A7 (A6 (A8 Z Z) Z (A6 (P5 Z Z) Z (B0 ?_)));refine k1 ?_;refine B5 rfl (fun i=>?_) (fun i=>?_)
 ·exact absurd rfl (A0 i)
 refine k5 (k1 (k2 (k2 ?_)));refine A7 (A6 (H0 Z Z Z) Z (C8 (E) Z Z Z ?_));rintro _ rfl;refine A6 (A8 Z Z) Z (A6 (C1 Z Z) Z (A6 (C1 Z Z) Z (A6 (A9 Z Z) Z (A6 (A9 Z Z) Z (B0 ?_)))));refine k1 (k2 ?_);refine A7 (A6 (A8 Z Z) Z (A6 (P5 Z Z) Z (B0 ?_)));refine k1 ?_;refine B5 rfl (fun i=>?_) (fun i=>?_)
 ·exact absurd rfl (A0 i)
 refine k5 (k1 (k2 ?_));refine A7 (A6 (B2 Z) Z (A6 (B4 Z Z Z) Z (A6 (J1 Z Z) Z (A6 (A8 Z Z) Z (B3 Z Z Z Z (fun j=>by rw[j];exact B2 Z) ?_)))));refine B3 Z Z Z Z (fun j=>by rw[j];exact B4 Z Z Z) ?_;refine B3 Z Z Z Z (fun j=>by rw[j];exact J1 Z Z) ?_;refine A6 (C3 Z (fun h=>by first | rfl | (rw[h];rfl)) (fun h=>by first | rfl | (rw[h];rfl))) Z ?_;refine A6 (A9 Z Z) Z (B0 ?_);refine sL [(0,E2 Commit 3 E7 g),(3,.s (.one (.ref 3 0))),(9,O8 (decide (c.Kind=3\/c.Kind=9)))] [(3,.box (kV c))] (by rw[<-or_pick];exact (Sees.of ⟨B1 rfl,B1 rfl,B1 rfl,trivial⟩ ⟨rfl,trivial⟩)) ?_;refine k2 (k2 ?_);refine A7 (A6 (A8 Z Z) Z (A6 (B2 Z) Z (A6 (B4 Z Z Z) Z (C8 (vD g c.A) Z Z Z ?_))));rintro _ rfl;refine A6 (Y7 Z) Z (A6 (A8 Z Z) Z (B3 Z Z Z Z (fun j=>by rw[j];exact A8 Z Z) ?_));refine B3 Z Z Z Z (fun j=>by rw[j];exact A8 Z Z) ?_;refine Z9 Z Z Z (.gd (.val _)) Z (fun j=>by obtain⟨k,m⟩:=Y2 j;(try rw[k]);(try rw[m]);exact A8 Z Z) ?_;refine Z9 Z Z Z (.gd (.val _)) Z (fun j=>by obtain⟨k,m⟩:=Y2 j;(try rw[k]);(try rw[m]);exact B2 Z) ?_;refine Z9 Z Z Z (.gd (.val _)) Z (fun j=>by obtain⟨k,m⟩:=Y2 j;(try rw[k]);(try rw[m]);exact B4 Z Z Z) ?_;refine Z9 Z Z Z (.gd (.val _)) Z (fun j=>by have J:=j;(try simp at J);obtain⟨k,m⟩:=Y2 j;(try rw[k]);(try rw[m]);exact L3 (vD g c.B) Z Z) ?_;refine Z9 Z Z Z (.gd (.val _)) Z (fun j=>by obtain⟨k,m⟩:=Y2 j;(try rw[k]);(try rw[m]);exact Y7 Z) ?_;refine B3 Z Z Z Z (fun j=>by rw[j];exact C3 Z (fun h=>by first | rfl | (rw[h];rfl)) (fun h=>by first | rfl | (rw[h];rfl))) ?_;refine A6 (C3 Z (fun h=>by first | rfl | (rw[h];rfl)) (fun h=>by first | rfl | (rw[h];rfl))) Z ?_;refine B0 ?_;refine k1 ?_;refine B5 rfl (fun i=>?_) (fun i=>?_)
 ·exfalso;revert i;by_cases y:c.Kind=3\/c.Kind=9
  ·simp[C,G y,y]
  ·simp[C,y]
 refine sL [(0,E2 Commit 3 E7 g),(3,.s (.one (.ref 3 0)))] [(3,.box (kV c))] (Sees.of ⟨B1 rfl,B1 rfl,trivial⟩ ⟨rfl,trivial⟩) ?_;refine k5 (k1 (k2 (k2 ?_)));refine A7 (A6 (B2 Z) Z (A6 (B4 Z Z Z) Z (B0 ?_)));refine k1 (k3 (k2 ?_));refine A7 (A6 (J1 Z Z) Z (A6 (A9 Z Z) Z (B0 ?_)));refine k1 ?_;refine B5 rfl (fun i=>?_) (fun i=>?_)
 ·obtain⟨l,u,w,q⟩:=p.log (A0 i);rw[w];refine k2 ?_;refine A7 (A6 (A8 Z Z) Z (A6 (B2 Z) Z (A6 (B4 Z Z Z) Z (A6 (D2 (c:=G2) (ys:=[c.A]) (D6 Z Z Z Z G1) Z Z Z) Z (C8 (q) Z Z Z ?_)))));rintro _ rfl;refine A6 (C1 Z Z) Z (A6 (C1 Z Z) Z (C8 (eM l e u) Z Z Z ?_));rintro _ rfl;refine A6 (C1 Z Z) Z (A6 (C1 Z Z) Z (A6 (A9 Z Z) Z (A6 (A9 Z Z) Z (B0 ?_))));refine k1 (I8 (X4 (M6 ?_)));exact B9 (rs:=[H1 (O0 l),E6 e]) (V2 rfl rfl rfl rfl rfl) rfl
 refine k2 ?_;refine A7 (A6 (J1 Z Z) Z (A6 (A9 Z Z) Z (B0 ?_)));refine k1 ?_;refine B5 rfl (fun i=>?_) (fun i=>?_)
 ·have:=A0 i;omega
 refine k2 ?_;refine A7 (A6 (J1 Z Z) Z (A6 (A9 Z Z) Z (B0 ?_)));refine k1 ?_;refine B5 rfl (fun i=>?_) (fun i=>?_)
 ·have q:=p.diff (A0 i);refine k2 ?_;refine A7 (A6 (A8 Z Z) Z (A6 (H0 Z Z Z) Z (C8 (q) Z Z Z ?_)));rintro _ rfl;refine A6 (C1 Z Z) Z (A6 (C1 Z Z) Z (A6 (A9 Z Z) Z (A6 (A9 Z Z) Z (B0 ?_))));refine k1 (I8 (X4 (M6 ?_)));exact B9 (rs:=[H1 t,E6 e]) (V2 rfl rfl rfl rfl rfl) rfl
 refine k2 ?_;refine A7 (A6 (J1 Z Z) Z (A6 (A9 Z Z) Z (B0 ?_)));refine k1 ?_;refine B5 rfl (fun i=>?_) (fun i=>?_)
 ·have q:=p.merge (A0 i);refine k2 ?_;refine A7 (A6 (A8 Z Z) Z (A6 (H0 Z Z Z) Z (C8 (q) Z Z Z ?_)));rintro _ rfl;refine A6 (C1 Z Z) Z (A6 (C1 Z Z) Z (A6 (A9 Z Z) Z (A6 (A9 Z Z) Z (B0 ?_))));refine k1 (I8 (X4 (M6 ?_)));exact B9 (rs:=[H1 t,E6 e]) (V2 rfl rfl rfl rfl rfl) rfl
 refine k2 ?_;refine A7 (A6 (J1 Z Z) Z (A6 (A9 Z Z) Z (B0 ?_)));refine k1 ?_;refine B5 rfl (fun i=>?_) (fun i=>?_)
 ·obtain⟨l,u,w,q⟩:=p.lit (A0 i);rw[w];refine k2 ?_;refine A7 (A6 (A8 Z Z) Z (A6 (B2 Z) Z (A6 (B4 Z Z Z) Z (A6 (B2 Z) Z (A6 (B4 Z Z Z) Z (C8 (q) Z Z Z ?_))))));rintro _ rfl;refine A6 (C1 Z Z) Z (A6 (C1 Z Z) Z (C8 (eM l e u) Z Z Z ?_));rintro _ rfl;refine A6 (C1 Z Z) Z (A6 (C1 Z Z) Z (A6 (A9 Z Z) Z (A6 (A9 Z Z) Z (B0 ?_))));refine k1 (I8 (X4 (M6 ?_)));exact B9 (rs:=[H1 (O0 l),E6 e]) (V2 rfl rfl rfl rfl rfl) rfl
 refine k2 ?_;refine A7 (A6 (J1 Z Z) Z (A6 (A9 Z Z) Z (B0 ?_)));refine k1 ?_;refine B5 rfl (fun i=>?_) (fun i=>?_)
 ·have:=A0 i;omega
 refine k2 ?_;refine A7 (A6 (J1 Z Z) Z (A6 (A9 Z Z) Z (B0 ?_)));refine k1 ?_;refine B5 rfl (fun i=>?_) (fun i=>?_)
 ·have q:=p.lines (A0 i);refine k2 ?_;refine A7 (A6 (A8 Z Z) Z (A6 (H0 Z Z Z) Z (C8 (q) Z Z Z ?_)));rintro _ rfl;refine A6 (C1 Z Z) Z (A6 (C1 Z Z) Z (A6 (A9 Z Z) Z (A6 (A9 Z Z) Z (B0 ?_))));refine k1 (I8 (X4 (M6 ?_)));exact B9 (rs:=[H1 t,E6 e]) (V2 rfl rfl rfl rfl rfl) rfl
 refine k2 ?_;refine A7 (A6 (J1 Z Z) Z (A6 (A9 Z Z) Z (B0 ?_)));refine k1 ?_;refine B5 rfl (fun i=>?_) (fun i=>?_)
 ·have q:=p.blame (A0 i);refine k2 ?_;refine A7 (A6 (A8 Z Z) Z (A6 (H0 Z Z Z) Z (C8 (q) Z Z Z ?_)));rintro _ rfl;refine A6 (C1 Z Z) Z (A6 (C1 Z Z) Z (A6 (A9 Z Z) Z (A6 (A9 Z Z) Z (B0 ?_))));refine k1 (I8 (X4 (M6 ?_)));exact B9 (rs:=[H1 t,E6 e]) (V2 rfl rfl rfl rfl rfl) rfl
 rename_i K L M N O P Q;have F:c.Kind=9:=by
  have:=A1 i;have:=A1 K;have:=A1 L;have:=A1 M;have:=A1 N;have:=A1 O;have:=A1 P;have:=A1 Q;omega
 obtain⟨l,u,w,q⟩:=p.bases F;rw[w];refine k5 (k2 ?_);refine A7 (A6 (A8 Z Z) Z (A6 (B2 Z) Z (A6 (B4 Z Z Z) Z (A6 (B2 Z) Z (A6 (B4 Z Z Z) Z (C8 (q) Z Z Z ?_))))));rintro _ rfl;refine A6 (C1 Z Z) Z (A6 (C1 Z Z) Z (C8 (eM l e u) Z Z Z ?_));rintro _ rfl;refine A6 (C1 Z Z) Z (A6 (C1 Z Z) Z (A6 (A9 Z Z) Z (A6 (A9 Z Z) Z (B0 ?_))));refine k1 (I8 ?_);exact B9 (rs:=[H1 (O0 l),E6 e]) (V2 rfl rfl rfl rfl rfl) rfl
theorem mT(g:Graph)(a:Str)(c:Cmd)(j:Int)(i:Str)(q:Int)(y:a.length<=65536)(x:i.length<=16777216)(v:FnOk Tryz.prog 101 [H1 a] (fun rs=>rs=[dN c,E6 j]))
  (t:j=0->FnOk Tryz.prog 11 [F4 g,dN c] (fun rs=>rs=[H1 i,E6 q])) :
  FnOk Tryz.prog 54 [F4 g,H1 a] (fun rs=>rs=[H1 (aX a i (if j=0 then q else j))]):=by
 obtain⟨o,d⟩:∃o:Str,o=if j=0 then i else []:=⟨_,rfl⟩
 obtain⟨f,b⟩:∃f:Int,f=if j=0 then q else j:=⟨_,rfl⟩
 obtain⟨n,e⟩:∃n:Str,n=if f≠0 then kX f else o:=⟨_,rfl⟩
 have w:=bK f;have p:o.length<=16777216:=by
  rw[d];split
  ·exact x
  ·simp
 have r:n.length<=16777216:=by
  rw[e];split
  ·unfold kX;simp only[VF,VD,VI];omega
  ·exact p
 have m:aX a i f=[62,32]++a++[10]++n:=by
  unfold aX;rw[e];by_cases h:f≠0
  ·rw[A4 h,A4 h]
  ·rw[A5 h,A5 h];have:j=0:=by
    apply Classical.byContradiction;intro s;rw[b,A5 s]at h;exact h s
   rw[d,A4 this]
 rw[<-b,m];refine FnOk.intro Tryz.func54 (by decide) Z Z Z Z ?_;refine k2 ?_;refine A7 (A6 (A9 Z Z) Z (B0 ?_));refine k1 (k2 ?_);refine A7 (A6 (A8 Z Z) Z (C8 (v) Z Z Z ?_));rintro _ rfl;refine A6 (A8 Z Z) Z (A6 (C1 Z Z) Z (A6 (C1 Z Z) Z (D3 (L4 5 Z) Z (H3 (D5 TySz.out Z Z Z Z Z Z) (A6 (A9 Z Z) Z (B0 ?_))))));refine k1 (k2 ?_);refine A7 (A6 (A9 Z Z) Z (B0 ?_));refine k1 (k2 (k2 ?_));refine A7 (A6 (A8 Z Z) Z (A6 (J1 Z Z) Z (B0 ?_)));refine k1 ?_;refine bY [(1,P4 a),(7,P4 o),(6,D1 f)] [] ?_ ?_
 ·skip;refine B5 rfl (fun l=>?_) (fun l=>?_)
  ·have k:j=0:=A0 l;have u:=t k;rw[A4 k]at d b;subst d b;skip;refine A7 (A6 (A8 Z Z) Z (A6 (H0 Z Z Z) Z (C8 (u) Z Z Z ?_)));rintro _ rfl;refine A6 (A8 Z Z) Z (A6 (C1 Z Z) Z (A6 (C1 Z Z) Z (A6 (A9 Z Z) Z (A6 (A9 Z Z) Z (B0 ?_)))));refine k1 ?_;exact Sees.of ⟨B1 rfl,B1 rfl,B1 rfl,trivial⟩ trivial
  ·have k:¬j=0:=A1 l;rw[A5 k]at d b;subst d b;refine k5 (k1 ?_);exact Sees.of ⟨B1 rfl,B1 rfl,B1 rfl,trivial⟩ trivial
 refine k2 (k2 ?_);refine A7 (A6 (A8 Z Z) Z (A6 (P5 Z Z) Z (B0 ?_)));refine k1 ?_;refine bY [(1,P4 a),(7,P4 n)] [] ?_ ?_
 ·skip;refine B5 rfl (fun l=>?_) (fun l=>?_)
  ·have k:f≠0:=A0 l;rw[A4 k]at e;rw[e];skip;refine A7 (A6 (A8 Z Z) Z (C8 (cG f) Z Z Z ?_));rintro _ rfl;refine A6 (K6 Z Z (by (simp;omega))) Z (A6 (K6 Z Z (by (simp;omega))) Z (A6 (A9 Z Z) Z (B0 ?_)));refine k1 ?_;exact Sees.of ⟨B1 rfl,B1 rfl,trivial⟩ trivial
  ·have k:¬f≠0:=A1 l;rw[A5 k]at e;rw[e];refine k5 (k1 ?_);exact Sees.of ⟨B1 rfl,B1 rfl,trivial⟩ trivial
 refine k2 ?_;refine A7 (A6 (A8 Z Z) Z (A6 (K6 Z Z (by (simp;omega))) Z (A6 (K6 Z Z (by (simp;omega))) Z (A6 (A8 Z Z) Z (A6 (K6 Z Z (by (simp;omega))) Z (A6 (A9 Z Z) Z (B0 ?_)))))));refine k1 (I8 ?_);exact B9 (rs:=[H1 ([62,32]++a++[10]++n)]) (I5 rfl rfl rfl) rfl
theorem KA{gf:Fr}{ob:Obs}{c:Str}{a:TC}(d:C5 ob 700=some (.tbx 109 [a,.buf 701 UInt8 1 AU c])) :
  AL.Met Tryz.prog 55 [.one (.ref 700 0)] gf ob [] (fun rs ob'=>rs=[.one (.p (.v (.int .i64 c.length)))]/\ob'=ob):=by
 refine AL.Met.intro Tryz.func55 (by decide) Z Z Z ?_;refine k2 ?_;refine A7 (A6 (A9 Z Z) Z (B0 ?_));refine k1 (k2 ?_);refine A7 (A6 (A8 Z Z) Z (A6 (C4 Z) Z (A6 (B2 Z) Z (A6 (dV Z d Z) Z (A6 (F7 Z (.buf _ _ _ _ _)) Z (A6 (A9 Z Z) Z (B0 ?_)))))));refine k1 (I8 ?_);exact G9 (O9 rfl rfl) (by repeat (first | exact B7 | refine B8 rfl ?_ | refine E1 _ ?_)) (fun _ _ h=>h) ⟨rfl,rfl⟩
def KB:Bool->TC
 | false=>.p (.v (.pointer none))
 | true=>.ref 700 0
theorem NA(b:Bool):KB b=.p (.v (.pointer none))\/KB b=.ref 700 0:=by cases b<;>simp[KB]
def aP(b:List Str)(i:Nat):Str:=(b.take i).flatten
theorem zC{a:List Str}{i:Nat}{o:Str}(h:a[i]?=some o):aP a (i+1)=aP a i++o:=by
 unfold aP;rw[List.take_add_one,h];simp
theorem pV(a:List Str)(i:Nat):(aP a i).length<=a.flatten.length:=by
 unfold aP
 conv=>rhs;rw[<-WR i a,WP,VF]
 omega
theorem NB(g:Graph)(s:Str)(m c:List Str)(h:FewT g)(L:K2 g=0)(B:s.length<=536870912)(E:rE s=(m,0))(H:c.length=m.length)(K:∀(i:Nat) (d o:Str),m[i]?=some d->c[i]?=some o->FnOk Tryz.prog 54 [F4 g,H1 d] (fun rs=>rs=[H1 o]))
  (I:c.flatten.length<=16777216) (O:m.length<=1000):FnOk Tryz.prog 21 [F4 g,H1 s] (fun rs=>rs=[H1 c.flatten,E6 0]):=by
 have F:=nZ g h;rw[L]at F;have G:=GP s B;rw[E]at G;have w:c.flatten=aP c c.length:=by unfold aP;rw[VJ]
 rw[w];refine FnOk.intro Tryz.func21 (by decide) Z Z Z Z ?_;refine k2 ?_;refine A7 (A6 (A9 Z Z) Z (A6 (A9 Z Z) Z (B0 ?_)));refine k1 (k2 (k2 ?_));refine A7 (A6 (A8 Z Z) Z (C8 (F) Z Z Z ?_));rintro _ rfl;refine A6 (A9 Z Z) Z (B0 ?_);refine k1 (k2 ?_);refine A7 (A6 (A8 Z Z) Z (A6 (P5 Z Z) Z (B0 ?_)));refine k1 ?_;refine B5 rfl (fun j=>?_) (fun j=>?_)
 ·exact absurd rfl (A0 j)
 refine k5 (k1 (k2 ?_));refine A7 (A6 (A8 Z Z) Z (C8 (G) Z Z Z ?_));rintro _ rfl;refine A6 (A8 Z Z) Z (A6 (C1 Z Z) Z (A6 (C1 Z Z) Z (A6 (A9 Z Z) Z (A6 (A9 Z Z) Z (B0 ?_)))));refine k1 (k2 (k2 ?_));refine A7 (A6 (A8 Z Z) Z (A6 (P5 Z Z) Z (B0 ?_)));refine k1 ?_;refine B5 rfl (fun j=>?_) (fun j=>?_)
 ·exact absurd rfl (A0 j)
 refine k5 (k1 (k2 ?_));refine A7 (D3 (xE 700 Z) Z (B0 ?_));refine k1 (k2 (k2 ?_));refine I7 (UR 701 UInt8 1 AU 5 (kb:=700) (o:=1) Z Z Z) ?_;refine A7 (A6 (A8 Z Z) Z (A6 (F7 Z (.pure _ _ _ _)) Z (A6 (A8 Z Z) Z (B0 ?_))));refine k1 (k3 ?_);refine D9 (X:=Nat×Bool) (fun x=>([(0,E2 Commit 3 E7 g),(9,.s (.one (.ref 700 0))),(25,E2 Str 1 y1 m),(26,D1 m.length),(27,D1 x.1)],[(700,.tbx 109 [KB x.2,.buf 701 UInt8 1 AU (aP c x.1)]),(701,.spare (aP c x.1).length 1 5)])) (fun x=>x.1<=m.length) (fun x=>m.length-x.1) (0,false) (Nat.zero_le _) (Sees.of ⟨B1 rfl,B1 rfl,B1 rfl,B1 rfl,B1 rfl,trivial⟩ ⟨rfl,rfl,trivial⟩) ?_;rintro⟨i,a⟩ N;dsimp only at N ⊢;have ha:=NA a;have M:=pV c i;refine k2 ?_;refine A7 (A6 (F1 Z Z) Z (B0 ?_));refine k1 (k2 ?_);refine B5 rfl (fun j=>?_) (fun j=>?_);rotate_left
 ·have C:i=c.length:=by have v:=A1 j;(try dsimp only at v);omega
  rw[C];refine k6 (k2 ?_);refine A7 (sN (k:=700) (k':=701) ⟨_,rfl,rfl,rfl⟩ gP Z Z Z Z Z ha Z (A6 (A9 Z Z) Z (A6 (A9 Z Z) Z (B0 ?_))));refine k1 (I8 ?_);exact B9 (rs:=[H1 (aP c c.length),E6 0]) (V2 rfl rfl rfl rfl rfl) rfl
 have z:i<m.length:=by have v:=A0 j;(try dsimp only at v);omega
 obtain⟨d,q⟩:∃d,d=m[i]:=⟨_,rfl⟩
 have J:m[i]?=some d:=by rw[q];exact VA z
 obtain⟨o,P⟩:∃o,o=c[i]:=⟨_,rfl⟩
 have A:c[i]?=some o:=by rw[P];exact VA (by omega)
 have D:=K i d o J A;have B:=zC A;have y:=pV c (i+1);rw[B,VF]at y;refine k5 (k1 (k2 (k3 (k2 ?_))));refine A7 (A6 (B6 Z (.pure _ _ _ _) Z (by omega) J) Z (A6 (C0 Z Z) Z (A6 (A9 Z Z) Z (B0 ?_))));refine k1 (k2 ?_);refine A7 (A6 (A8 Z Z) Z (A6 (A8 Z Z) Z (C8 (D) Z Z Z ?_)));rintro _ rfl;refine W7 (dG ⟨⟨KB a,ha,rfl⟩,rfl⟩ (by omega)) Z Z Z ?_;rintro _ _ ⟨rfl,rfl⟩;refine B0 ?_;refine k1 (k2 ?_);refine A7 (W7 (KA Z) Z Z Z ?_);rintro _ _ ⟨rfl,rfl⟩;refine A6 (N5 Z Z) Z (B0 ?_);refine k1 ?_;refine B5 rfl (fun j=>?_) (fun j=>?_)
 ·exfalso;have v:=A0 j;rw[VF]at v;omega
 refine k5 (k4 (k1 ?_));refine A7 (A6 (D8 Z Z (by omega)) Z (A6 (A8 Z Z) Z (B0 ?_)));refine k1 ?_;exact⟨(i+1,true),z,by dsimp only;omega,(by dsimp only;rw[B];exact (Sees.of ⟨B1 rfl,B1 rfl,B1 rfl,B1 rfl,B1 rfl,trivial⟩ ⟨rfl,rfl,trivial⟩))⟩
theorem mU(g:Graph)(l:List Int)(h:FewT g)(m:K2 g=0)(q:l.length<=1000)(n:∀x∈l,S5 g x):FnOk Tryz.prog 60 [F4 g,K0 l] (fun rs=>rs=[E6 0]):=by
 have f:=nZ g h;rw[m]at f;refine FnOk.intro Tryz.func60 (by decide) Z Z Z Z ?_;refine k2 ?_;refine A7 (A6 (A9 Z Z) Z (B0 ?_));refine k1 (k2 (k2 ?_));refine A7 (A6 (A8 Z Z) Z (C8 (f) Z Z Z ?_));rintro _ rfl;refine A6 (A9 Z Z) Z (B0 ?_);refine k1 (k2 ?_);refine A7 (A6 (A8 Z Z) Z (A6 (P5 Z Z) Z (B0 ?_)));refine k1 ?_;refine B5 rfl (fun a=>?_) (fun a=>?_)
 ·exact absurd rfl (A0 a)
 refine k5 (k1 (k2 (k2 ?_)));refine A7 (A6 (A8 Z Z) Z (A6 (F7 Z (.pure _ _ _ _)) Z (A6 (A8 Z Z) Z (B0 ?_))));refine k1 (k3 ?_);refine D9 (X:=Nat) (fun i=>([(0,E2 Commit 3 E7 g),(13,E2 Int 1 G2 l),(14,D1 l.length),(15,D1 i)],[])) (fun i=>i<=l.length) (fun i=>l.length-i) 0 (Nat.zero_le _) (Sees.of ⟨B1 rfl,B1 rfl,B1 rfl,B1 rfl,trivial⟩ trivial) ?_;intro i d;dsimp only at d ⊢;refine k2 ?_;refine A7 (A6 (F1 Z Z) Z (B0 ?_));refine k1 (k2 ?_);refine B5 rfl (fun a=>?_) (fun a=>?_);rotate_left
 ·refine k6 (k2 ?_);refine A7 (A6 (A9 Z Z) Z (B0 ?_));refine k1 (I8 ?_);exact B9 (rs:=[E6 0]) (I5 rfl rfl rfl) rfl
 have b:i<l.length:=by have k:=A0 a;(try dsimp only at k);omega
 obtain⟨x,j⟩:∃x,x=l[i]:=⟨_,rfl⟩
 have o:l[i]?=some x:=by rw[j];simp[b]
 have c:=vD g x;rw[A2 (n x (by rw[j];exact VE b))]at c;refine k5 (k1 (k2 (k3 (k2 ?_))));refine A7 (A6 (B6 Z (.pure _ _ _ _) Z (by omega) o) Z (A6 (C0 Z Z) Z (A6 (A9 Z Z) Z (B0 ?_))));refine k1 (k2 ?_);refine A7 (A6 (A8 Z Z) Z (A6 (A8 Z Z) Z (C8 (c) Z Z Z ?_)));rintro _ rfl;refine A6 (Y7 Z) Z (B0 ?_);refine k1 ?_;refine B5 rfl (fun a=>?_) (fun a=>?_)
 ·cases a
 refine k5 (k4 (k1 ?_));refine A7 (A6 (D8 Z Z (by omega)) Z (A6 (A8 Z Z) Z (B0 ?_)));refine k1 ?_;exact⟨i+1,by omega,by omega,Sees.of ⟨B1 rfl,B1 rfl,B1 rfl,B1 rfl,trivial⟩ trivial⟩
def IL(a:List Bool)(b:List Int):Nat:=2*a.count false+b.length
theorem fL(g:Graph)(c:Nat)(hF:FewG g)(hr:related g=true)(Y:c<g.length):FnOk Tryz.prog 61 [F4 g,E6 c] (fun rs=>rs=[LB (F6 g [(c:Int)])]):=by
 have hg:=hF.len;obtain⟨z,hz⟩:∃z,z=(List.replicate g.length false).set c true:=⟨_,rfl⟩
 have Q:=Dfs.init Y;have an:IL z [(c:Int)]<=2*g.length:=by
  have J:=rF (l:=List.replicate g.length false) (i:=c) (by rw[VX];exact Y) (by unfold E9;rw[List.getElem?_replicate,A4 Y];rfl);rw[<-hz,List.count_replicate_self]at J;unfold IL;rw[List.length_singleton];omega
 rw[<-hz]at Q;refine FnOk.intro Tryz.func61 (by decide) Z Z Z Z ?_;refine k2 ?_;refine A7 (A6 (G8 _ 1 T3) Z (B0 ?_));refine k1 (k2 ?_);refine A7 (A6 (A8 Z Z) Z (A6 (F7 Z (.pure _ _ _ _)) Z (D3 (fG 751 Bool T3 false Z Z (by omega) (by omega) (fun _=>by first | exact⟨⟨rfl,rfl⟩,trivial⟩ | exact⟨J2 _ _ _,trivial⟩ | exact⟨J2 _ _ _,⟨rfl,rfl⟩,J2 _ _ _,trivial⟩ | exact⟨⟨rfl,rfl⟩,⟨rfl,rfl⟩,trivial⟩) (by first | rfl | (simp[H4,M1,Ob.free,SV.free,S1.free,TC.free]<;>rfl))) Z ?_)));refine A6 (A9 Z Z) Z (B0 ?_);rw[VC];refine k1 (k2 ?_);refine A7 (A6 (A8 Z Z) Z (A6 (A8 Z Z) Z (A6 (E5 Z Z Z (by omega) (by (rw[VX];omega))) Z ?_)));refine H3 (K9 TySz.out Z Z (by (rw[VX];omega)) Z Z) ?_;refine B0 ?_;rw[VC,<-hz];refine k1 (k2 (k2 ?_));refine A7 (A6 (A8 Z Z) Z (D3 (FR 752 (c:=G2) (ys:=[(c:Int)]) (D6 Z Z Z Z G1) Z Z Z Z Z) Z (A6 (A9 Z Z) Z (B0 ?_))));refine k1 (k3 ?_);refine D9 (X:=List Bool×List Int) (fun x=>([(0,E2 Commit 3 E7 g),(5,.s (.one (.mut 751))),(6,.s (.one (.mut 752)))],[(751,.arr Bool 1 T3 x.1),(752,.grow 3 Int 1 G2 x.2)])) (fun x=>Dfs g c none 0 x.1 x.2/\IL x.1 x.2<=2*g.length) (fun x=>IL x.1 x.2) (z,[(c:Int)]) ⟨Q,an⟩ (Sees.of ⟨B1 rfl,B1 rfl,B1 rfl,trivial⟩ ⟨rfl,rfl,trivial⟩) ?_;rintro⟨C,P⟩ ⟨K,E⟩;dsimp only at K E ⊢;have af:P.length<=2*g.length:=by unfold IL at E;omega
 refine k2 (k2 ?_);refine A7 (A6 (A8 Z Z) Z (A6 (P9 Z Z) Z (A6 (N5 Z Z) Z (B0 ?_))));refine k1 ?_;refine B5 rfl (fun B=>?_) (fun B=>?_);rotate_left
 ·have ah:P=[]:=List.length_eq_zero_iff.1 (by have J:=A1 B;omega);rw[ah]at K;have T:=K.done hr Y;rw[<-T];refine I7 (Sees.freeze (k:=751) Z) ?_;refine k6 (k2 ?_);refine A7 (A6 (A8 Z Z) Z (A6 (A9 Z Z) Z (B0 ?_)));refine k1 (I8 ?_);exact B9 (rs:=[LB C]) (I5 rfl rfl rfl) rfl
 have V:0<P.length:=by have J:=A0 B;omega
 obtain⟨r,x,F⟩:∃(r:List Int) (x:Int),P=r++[x]:=⟨P.dropLast,P.getLast (List.length_pos_iff.1 V),(List.dropLast_concat_getLast _).symm⟩
 have O:=K.opn x (by rw[F];simp);obtain⟨j,am⟩:∃n:Nat,x=(n:Int):=⟨x.toNat,by omega⟩
 rw[am]at F O;rw[VC]at O;have G:=wJ O.2;rw[K.len]at G;rw[F]at K E af;have ab:=K.pop;have ar:(r++[(j:Int)]).length=r.length+1:=by simp
 have al:(r++[(j:Int)])[(((r++[(j:Int)]).length:Int)-1).toNat]?=some (j:Int):=by
  rw[show (((r++[(j:Int)]).length:Int)-1).toNat=r.length by omega,List.getElem?_concat_length]
 have R:(r++[(j:Int)]).take (((r++[(j:Int)]).length:Int)-1).toNat=r:=by
  rw[show (((r++[(j:Int)]).length:Int)-1).toNat=r.length by omega,List.take_left]
 have ae:IL C r+1=IL C (r++[(j:Int)]):=by unfold IL;omega
 obtain⟨q,L⟩:∃q,q=g[j]:=⟨_,rfl⟩
 have ak:g[((j:Nat):Int).toNat]?=some q:=by rw[L,VC];simp[G]
 have M:D4 g j=q.Parents:=by rw[U6 G,L]
 have hpr:=(I3 hr j).1;rw[M]at hpr;have aq:=hF.pars q (by rw[L];exact VE G);subst F;refine k5 (k1 (k3 (k2 ?_)));refine A7 (A6 (A8 Z Z) Z (A6 (A8 Z Z) Z (A6 (P9 Z Z) Z (A6 (O3 Z Z (by omega)) Z (A6 (F0 Z Z Z (by omega) (by omega)) Z (A6 (S3 Z Z al Z) Z (A6 (A9 Z Z) Z (B0 ?_))))))));refine k1 (k2 ?_);refine A7 (A6 (A8 Z Z) Z (A6 (A8 Z Z) Z (A6 (P9 Z Z) Z (A6 (O3 Z Z (by omega)) Z (D3 (bZ Z Z Z (by omega) (by omega) Z) Z (A6 (A9 Z Z) Z (B0 ?_)))))));rw[R];refine k1 (k2 ?_);refine A7 (A6 (A8 Z Z) Z (A6 (A8 Z Z) Z (A6 (B6 Z (.pure _ _ _ _) Z (by omega) ak) Z (A6 (G5 Z) Z (A6 (C0 Z Z) Z (A6 (F7 Z (.pure _ _ _ _)) Z (A6 (A8 Z Z) Z (B0 ?_))))))));refine k1 (k3 ?_);refine D9 (X:=Nat×List Bool×List Int) (fun y=>([(0,E2 Commit 3 E7 g),(5,.s (.one (.mut 751))),(6,.s (.one (.mut 752))),(36,E2 Int 1 G2 q.Parents),(37,D1 q.Parents.length),(38,D1 y.1)],[(751,.arr Bool 1 T3 y.2.1),(752,.grow 3 Int 1 G2 y.2.2)])) (fun y=>y.1<=q.Parents.length/\Dfs g c (some j) y.1 y.2.1 y.2.2/\IL y.2.1 y.2.2<=IL C r) (fun y=>q.Parents.length-y.1) (0,C,r) ⟨Nat.zero_le _,ab,Nat.le_refl _⟩ (Sees.of ⟨B1 rfl,B1 rfl,B1 rfl,B1 rfl,B1 rfl,B1 rfl,trivial⟩ ⟨rfl,rfl,trivial⟩) ?_;rintro⟨k,d,H⟩ ⟨hk,A,D⟩;dsimp only at hk A D ⊢;have ao:H.length<=2*g.length:=by unfold IL at D ae E;omega
 have f:=A.len;refine k2 ?_;refine A7 (A6 (F1 Z Z) Z (B0 ?_));refine k1 (k2 ?_);refine B5 rfl (fun B=>?_) (fun B=>?_);rotate_left
 ·have ad:k=q.Parents.length:=by have J:=A1 B;(try dsimp only at J);omega
  rw[ad,<-M]at A;have ac:=A.close;refine k6 (k7 (k7 (k8 Z (k4 (k1 ?_)))));exact⟨(d,H),⟨ac,(by dsimp only;omega)⟩,(by dsimp only;omega),Sees.of ⟨B1 rfl,B1 rfl,B1 rfl,trivial⟩ ⟨rfl,rfl,trivial⟩⟩
 have v:k<q.Parents.length:=by have J:=A0 B;(try dsimp only at J);omega
 have ai:=hpr _ (VE v);obtain⟨p,hp⟩:∃p:Nat,q.Parents[k]=(p:Int):=⟨q.Parents[k].toNat,by omega⟩
 rw[hp]at ai;have W:q.Parents[k]?=some (p:Int):=by rw[VA v,hp]
 have I:(D4 g j)[k]?=some (p:Int):=by rw[M];exact W
 have U:p<g.length:=by omega
 obtain⟨b,hb⟩:∃b,b=E9 d p:=⟨_,rfl⟩
 have aj:d[((p:Nat):Int).toNat]?=some b:=by rw[hb,VC];exact U1 (by omega)
 refine k5 (k1 (k2 (k3 (k2 ?_))));refine A7 (A6 (B6 Z (.pure _ _ _ _) Z (by omega) W) Z (A6 (C0 Z Z) Z (A6 (A9 Z Z) Z (B0 ?_))));refine k1 (k2 ?_);refine A7 (A6 (A8 Z Z) Z (A6 (A8 Z Z) Z (A6 (E5 Z Z Z (by omega) (by (rw[f];omega))) Z ?_)));refine A6 (L9 Z Z aj Z) Z (A6 (Y7 Z) Z (B0 ?_));refine k1 ?_;refine B5 rfl (fun B=>?_) (fun B=>?_)
 ·have S:E9 d p=false:=by
   rw[<-hb];cases b
   ·rfl
   ·cases B
  have ap:=rF (l:=d) (i:=p) (by omega) S;refine k2 ?_;refine A7 (A6 (A8 Z Z) Z (A6 (A8 Z Z) Z (A6 (E5 Z Z Z (by omega) (by (rw[f];omega))) Z ?_)));refine H3 (K9 TySz.out Z Z (by (rw[f];omega)) Z Z) ?_;refine B0 ?_;rw[VC];refine k1 ?_;refine A7 (A6 (A8 Z Z) Z (A6 (A8 Z Z) Z (A6 (D2 (c:=G2) (ys:=[(p:Int)]) (D6 Z Z Z Z G1) Z Z Z) Z (D3 (T9 Z Z Z (.pure _ _ _ _) (by (simp only[VD,VI];omega)) Z) Z (A6 (A9 Z Z) Z (B0 ?_))))));refine k4 (k1 ?_);refine A7 (A6 (D8 Z Z (by omega)) Z (A6 (A8 Z Z) Z (B0 ?_)));refine k1 ?_;refine⟨(k+1,d.set p true,H++[(p:Int)]),⟨v,A.push I U,?_⟩,by dsimp only;omega,(Sees.of ⟨B1 rfl,B1 rfl,B1 rfl,B1 rfl,B1 rfl,B1 rfl,trivial⟩ ⟨rfl,rfl,trivial⟩)⟩;dsimp only;unfold IL at D ⊢;rw[VF,List.length_singleton];omega
 ·have ag:E9 d p=true:=by
   rw[<-hb];cases b
   ·cases B
   ·rfl
  refine k5 (k4 (k1 ?_));refine A7 (A6 (D8 Z Z (by omega)) Z (A6 (A8 Z Z) Z (B0 ?_)));refine k1 ?_;exact⟨(k+1,d,H),⟨v,A.skip I (by rw[VC];exact ag),D⟩,by dsimp only;omega,(Sees.of ⟨B1 rfl,B1 rfl,B1 rfl,B1 rfl,B1 rfl,B1 rfl,trivial⟩ ⟨rfl,rfl,trivial⟩)⟩
abbrev GQ(cov:List Bool):Unit->Nat->Cell:=fun _ _=>.list Bool 1 T3 cov
theorem pW(cov:List Bool)(x:Int)(b:Bool)(d:0<=x)(a:cov[x.toNat]?=some b):AL.Met Tryz.prog 106 [pS x,.one (.eref Unit 1 (GQ cov) () 0)] [] [] [] (fun rs ob'=>rs=[gU b]/\ob'=[]):=by
 have c:x.toNat<cov.length:=(List.getElem?_eq_some_iff.1 a).1;refine AL.Met.intro Tryz.func106 (by decide) Z Z Z ?_;refine k2 ?_;refine A7 (A6 (A9 Z Z) Z (B0 ?_));refine k1 (k2 ?_);refine A7 (A6 (C0 Z Z) Z (A6 (A8 Z Z) Z (A6 (B6 Z (.pure _ _ _ _) Z (by omega) a) Z (A6 (C0 Z Z) Z (A6 (A9 Z Z) Z (B0 ?_))))));refine k1 (I8 ?_);exact G9 (O9 rfl rfl) (by repeat (first | exact B7 | refine B8 rfl ?_ | refine E1 _ ?_)) (ObIn.spec (ob':=[]) trivial) ⟨rfl,rfl⟩
theorem vP(f:FuncId)(α:Type)(d:Nat)(c:α->Nat->Cell)(v:α)(l:List Int)(y:l.length<=1073741824)(m:∀x∈l,AL.Met Tryz.prog f [pS x,.one (.eref α d c v 0)] [] [] [] (fun h ob'=>h=[gU false]/\ob'=[])) :
  AL.Met Tryz.prog 158 [.one (.p (.list Int 1 G2 l)),.one (.fncE f α d c v)] [] [] [] (fun h ob'=>h=[pS (-1)]/\ob'=[]):=by
 refine AL.Met.intro Tryz.func158 (by decide) Z Z Z ?_;refine k2 ?_;refine A7 (A6 (A9 Z Z) Z (B0 ?_));refine k1 (k2 (k2 ?_));refine A7 (A6 (A8 Z Z) Z (A6 (F7 Z (.pure _ _ _ _)) Z (A6 (A8 Z Z) Z (B0 ?_))));refine k1 (k3 ?_);refine D9 (X:=Nat) (fun i=>([(0,E2 Int 1 G2 l),(1,.s (.one (.fncE f α d c v))),(7,D1 l.length),(8,D1 i)],[])) (fun i=>i<=l.length) (fun i=>l.length-i) 0 (Nat.zero_le _) (Sees.of ⟨B1 rfl,B1 rfl,B1 rfl,B1 rfl,trivial⟩ trivial) ?_;intro i q;dsimp only at q ⊢;refine k2 ?_;refine A7 (A6 (F1 Z Z) Z (B0 ?_));refine k1 (k2 ?_);refine B5 rfl (fun b=>?_) (fun b=>?_);rotate_left
 ·refine k6 (k2 ?_);refine A7 (A6 (A9 Z Z) Z (B0 ?_));refine k1 (I8 ?_);exact G9 (O9 rfl rfl) (by repeat (first | exact B7 | refine B8 rfl ?_ | refine E1 _ ?_)) (ObIn.spec (ob':=[]) trivial) ⟨rfl,rfl⟩
 have a:i<l.length:=by have k:=A0 b;(try dsimp only at k);omega
 obtain⟨x,j⟩:∃x,x=l[i]:=⟨_,rfl⟩
 have w:l[i]?=some x:=by rw[j];simp[a]
 have g:=m x (by rw[j];exact VE a);refine k5 (k1 (k2 (k3 (k2 ?_))));refine A7 (A6 (A8 Z Z) Z (A6 (A9 Z Z) Z (B0 ?_)));refine k1 (k2 ?_);refine A7 (A6 (A8 Z Z) Z (A6 (A8 Z Z) Z (A6 (A8 Z Z) Z (A6 (B6 Z (.pure _ _ _ _) Z (by omega) w) Z (A6 (C0 Z Z) Z (A6 (nY (g) Z Z Z) Z (B0 ?_)))))));refine k1 ?_;refine B5 rfl (fun b=>?_) (fun b=>?_)
 ·cases b
 ·refine k5 (k4 (k1 ?_));refine A7 (A6 (D8 Z Z (by omega)) Z (A6 (A8 Z Z) Z (B0 ?_)));refine k1 ?_;exact⟨i+1,by omega,by omega,Sees.of ⟨B1 rfl,B1 rfl,B1 rfl,B1 rfl,trivial⟩ trivial⟩
theorem rX(f:FuncId)(α:Type)(a:Nat)(c:α->Nat->Cell)(v:α)(l:List Int)(g:l.length<=1073741824)(d:∀x∈l,AL.Met Tryz.prog f [pS x,.one (.eref α a c v 0)] [] [] [] (fun rs ob'=>rs=[gU false]/\ob'=[])) :
  AL.Met Tryz.prog 105 [.one (.p (.list Int 1 G2 l)),.one (.fncE f α a c v)] [] [] [] (fun rs ob'=>rs=[.one (.p (.list Int 1 G2 l))]/\ob'=[]):=by
 refine AL.Met.intro Tryz.func105 (by decide) Z Z Z ?_;refine k2 ?_;refine A7 (A6 (G8 _ 1 G2) Z (B0 ?_));refine k1 (k2 ?_);refine A7 (A6 (A8 Z Z) Z (A6 (A8 Z Z) Z (bF (vP f α a c v l g d) Z Z Z Z ?_)));rintro _ _ ⟨rfl,rfl⟩;refine⟨rfl,?_⟩;refine A6 (A9 Z Z) Z (B0 ?_);refine k1 (k2 (k2 ?_));refine A7 (A6 (A8 Z Z) Z (A6 (J1 Z Z) Z (B0 ?_)));refine k1 ?_;refine B5 rfl (fun b=>?_) (fun b=>?_);rotate_left
 ·exact absurd rfl (A1 b)
 refine k2 ?_;refine A7 (A6 (A8 Z Z) Z (A6 (A9 Z Z) Z (B0 ?_)));refine k1 (I8 (M6 ?_));exact G9 (O9 rfl rfl) (by repeat (first | exact B7 | refine B8 rfl ?_ | refine E1 _ ?_)) (ObIn.spec (ob':=[]) trivial) ⟨rfl,rfl⟩
def P7(g:Graph)(l:List Int)(k:Nat):List Bool:=T4 g (l.take k) (List.replicate g.length false)
theorem kG(g:Graph):∀(l:List Int) (c:Int) (a:List Bool),T4 g (l++[c]) a=J5 g (T4 g l a) c g.length
 | [],_,_=>rfl
 | d::r,c,a=>by
  rw[WE,T4,T4];exact kG g r c _
theorem kH{g:Graph}{l:List Int}{k:Nat}{c:Int}(h:l[k]?=some c):P7 g l (k+1)=J5 g (P7 g l k) c g.length:=by
 unfold P7;rw[List.take_add_one,h,Option.toList_some,kG]
theorem mV(g:Graph):∀(l:List Int) (a:List Bool),(T4 g l a).length=a.length
 | [],_=>rfl
 | c::r,a=>by rw[T4,mV g r,V7]
theorem mW(g:Graph)(l:List Int)(k:Nat):(P7 g l k).length=g.length:=by unfold P7;rw[mV,VX]
theorem GR(g:Graph)(l:List Int)(Y:FewG g)(hr:related g=true)(hl:l.length<=1000)(G:∀x∈l,0<=x/\x<(g.length:Int))(J:∀x∈l,E9 (T4 g l (List.replicate g.length false)) x.toNat=false) :
  FnOk Tryz.prog 62 [F4 g,K0 l] (fun rs=>rs=[K0 l]):=by
 have w:=Y.len;refine FnOk.intro Tryz.func62 (by decide) Z Z Z Z ?_;refine k2 ?_;refine A7 (A6 (G8 _ 1 G2) Z (B0 ?_));refine k1 (k2 ?_);refine A7 (A6 (A8 Z Z) Z (A6 (F7 Z (.pure _ _ _ _)) Z (D3 (fG 751 Bool T3 false Z Z (by omega) (by omega) (fun _=>by first | exact⟨⟨rfl,rfl⟩,trivial⟩ | exact⟨J2 _ _ _,trivial⟩ | exact⟨J2 _ _ _,⟨rfl,rfl⟩,J2 _ _ _,trivial⟩ | exact⟨⟨rfl,rfl⟩,⟨rfl,rfl⟩,trivial⟩) (by first | rfl | (simp[H4,M1,Ob.free,SV.free,S1.free,TC.free]<;>rfl))) Z ?_)));refine D3 (L4 5 Z) Z (H3 (D5 TySz.out Z Z Z Z Z Z) (B0 ?_));rw[VC];refine k1 (k2 (k2 ?_));refine A7 (A6 (A8 Z Z) Z (A6 (F7 Z (.pure _ _ _ _)) Z (A6 (A8 Z Z) Z (B0 ?_))));refine k1 (k3 ?_);refine D9 (X:=Nat) (fun k=>([(0,E2 Commit 3 E7 g),(1,E2 Int 1 G2 l),(5,.s (.one (.ref 5 0))),(13,E2 Int 1 G2 l),(14,D1 l.length),(15,D1 k)],[(5,.box [.mut 751]),(751,.arr Bool 1 T3 (P7 g l k))])) (fun k=>k<=l.length) (fun k=>l.length-k) 0 (Nat.zero_le _) (by dsimp only;rw[show P7 g l 0=List.replicate g.length false by simp[P7,T4]];exact (Sees.of ⟨B1 rfl,B1 rfl,B1 rfl,B1 rfl,B1 rfl,B1 rfl,trivial⟩ ⟨rfl,rfl,trivial⟩)) ?_;intro k hk;dsimp only at hk ⊢;have I:=mW g l k;refine k2 ?_;refine A7 (A6 (F1 Z Z) Z (B0 ?_));refine k1 (k2 ?_);refine B5 rfl (fun H=>?_) (fun H=>?_);rotate_left
 ·have Q:k=l.length:=by have D:=A1 H;(try dsimp only at D);omega
  obtain⟨cov,E⟩:∃cov,cov=T4 g l (List.replicate g.length false):=⟨_,rfl⟩
  have O:P7 g l k=cov:=by rw[Q,E];unfold P7;rw[VJ]
  rw[<-E]at J;rw[O]at I ⊢
  have hM:=rX 106 Unit 1 (GQ cov) () l (by omega) (fun x V=>pW cov x false (G x V).1 (by
   have D:=G x V
   rw[U1 (by omega),J x V]))
  refine I7 (Sees.freeze (k:=751) Z) ?_;refine I7 (Sees.shutB (t:=5) (k:=5) (cs:=[Cell.list Bool 1 T3 cov]) (α:=Unit) (c:=GQ cov) () Z Z (fun j hj=>by cases j with | zero=>rfl | succ j=>exact absurd hj (by simp))) ?_;refine k6 (k2 ?_);refine A7 (A6 (A8 Z Z) Z (A6 (eG Z) Z (bF (hM) Z Z Z Z ?_)));rintro _ _ ⟨rfl,rfl⟩;refine⟨rfl,?_⟩;refine A6 (A9 Z Z) Z (B0 ?_);refine k1 (I8 ?_);exact B9 (rs:=[K0 l]) (I5 rfl rfl rfl) rfl
 have F:k<l.length:=by have D:=A0 H;(try dsimp only at D);omega
 obtain⟨c,hc⟩:∃c,c=l[k]:=⟨_,rfl⟩
 have hv:l[k]?=some c:=by rw[hc];exact VA F
 have ad:=G c (by rw[hc];exact VE F);obtain⟨B,M⟩:∃n:Nat,c=(n:Int):=⟨c.toNat,by omega⟩
 subst M;have W:=fL g B Y hr (by omega);have A:=kH (g:=g) hv;obtain⟨R,L⟩:∃R,R=F6 g [(B:Int)]:=⟨_,rfl⟩
 have ac:R.length=g.length:=by rw[L,R1]
 obtain⟨C,hC⟩:∃C,C=P7 g l k:=⟨_,rfl⟩
 rw[<-hC]at A I ⊢;rw[<-L]at W;refine k5 (k1 (k2 (k3 (k2 ?_))));refine A7 (A6 (B6 Z (.pure _ _ _ _) Z (by omega) hv) Z (A6 (C0 Z Z) Z (A6 (A9 Z Z) Z (B0 ?_))));refine k1 (k2 ?_);refine A7 (A6 (A8 Z Z) Z (A6 (A8 Z Z) Z (C8 (W) Z Z Z ?_)));rintro _ rfl;refine A6 (F7 Z (.pure _ _ _ _)) Z (A6 (A8 Z Z) Z (B0 ?_));refine k1 (k3 ?_);refine D9 (X:=Nat) (fun i=>([(0,E2 Commit 3 E7 g),(1,E2 Int 1 G2 l),(5,.s (.one (.ref 5 0))),(7,D1 B),(13,E2 Int 1 G2 l),(14,D1 l.length),(15,D1 k),(21,E2 Bool 1 T3 R),(22,D1 R.length),(23,D1 i)],[(5,.box [.mut 751]),(751,.arr Bool 1 T3 (J5 g C B i))])) (fun i=>i<=g.length) (fun i=>g.length-i) 0 (Nat.zero_le _) (by dsimp only;rw[rG];exact (Sees.of ⟨B1 rfl,B1 rfl,B1 rfl,B1 rfl,B1 rfl,B1 rfl,B1 rfl,B1 rfl,B1 rfl,B1 rfl,trivial⟩ ⟨rfl,rfl,trivial⟩)) ?_;intro i hi;dsimp only at hi ⊢;have q:=V7 g C B i;refine k2 ?_;refine A7 (A6 (F1 Z Z) Z (B0 ?_));refine k1 (k2 ?_);refine B5 rfl (fun H=>?_) (fun H=>?_);rotate_left
 ·have P:i=g.length:=by have D:=A1 H;(try dsimp only at D);omega
  refine k6 (k7 (k7 (k8 Z (k4 (k1 ?_)))));refine A7 (A6 (D8 Z Z (by omega)) Z (A6 (A8 Z Z) Z (B0 ?_)));refine k1 ?_;refine⟨k+1,by omega,by omega,?_⟩;rw[A,<-P];exact (Sees.of ⟨B1 rfl,B1 rfl,B1 rfl,B1 rfl,B1 rfl,B1 rfl,trivial⟩ ⟨rfl,rfl,trivial⟩)
 have ab:i<g.length:=by have D:=A0 H;(try dsimp only at D);omega
 obtain⟨b,hb⟩:∃b,b=E9 R i:=⟨_,rfl⟩
 have T:R[i]?=some b:=by rw[hb];exact U1 (by omega)
 obtain⟨o,ho⟩:∃o,o=E9 (J5 g C B i) i:=⟨_,rfl⟩
 have U:(J5 g C B i)[((i:Nat):Int).toNat]?=some o:=by rw[ho,VC];exact U1 (by rw[q];omega)
 have K:=rI (g:=g) (cov:=C) (c:=(B:Int)) (n:=i) (by omega);rw[<-ho,<-L,<-hb]at K;refine k5 (k1 (k2 (k3 (k2 ?_))));refine A7 (A6 (A8 Z Z) Z (A6 (B6 Z (.pure _ _ _ _) Z (by omega) T) Z (A6 (C0 Z Z) Z (A6 (A9 Z Z) Z (A6 (A9 Z Z) Z (B0 ?_))))));refine k1 ?_;refine H2 (by kernel_rfl) (by kernel_rfl) (C2 (B4 Z Z Z) Z Z (C2 (A8 Z Z) Z Z (C2 (B4 Z Z Z) Z Z (C2 (A8 Z Z) Z Z (C2 (E5 Z Z Z (by omega) (by (rw[q];omega))) Z Z ?_)))));refine C2 (L9 Z Z U Z) Z Z (C2 (A8 Z Z) Z Z (F8 Z Z (fun w=>by rw[w];exact A8 Z Z) Z Z ?_));refine F8 Z Z (fun w=>by rw[w];exact A8 Z Z) Z Z ?_;refine bC Z Z (.gd (.val _)) (fun w=>by obtain⟨y,z⟩:=Y2 w;(try rw[y]);(try rw[z]);exact A8 Z Z) Z Z ?_;refine bC Z Z (.gd (.val _)) (fun w=>by obtain⟨y,z⟩:=Y2 w;(try rw[y]);(try rw[z]);exact A8 Z Z) Z Z ?_;refine bC Z Z (.gd (.val _)) (fun w=>by obtain⟨y,z⟩:=Y2 w;(try rw[y]);(try rw[z]);exact P5 Z Z) Z Z ?_;refine F8 Z Z (fun w=>by rw[w];exact C3 Z (fun h=>by first | rfl | (rw[h];rfl)) (fun h=>by first | rfl | (rw[h];rfl))) Z Z ?_;refine C2 (C3 Z (fun h=>by first | rfl | (rw[h];rfl)) (fun h=>by first | rfl | (rw[h];rfl))) Z Z ?_;refine C2 (E5 Z Z Z (by omega) (by (rw[q];omega))) Z Z ?_;refine IR (K9 TySz.out Z Z (by (rw[q];omega)) Z Z) Z ?_;refine i7 ?_;refine k4 (k1 ?_);have S:(if o=true then true else if b=true then decide ((i:Int)≠(B:Int)) else false)=(o||(b&&decide ((i:Int)≠(B:Int)))):=by cases o<;>cases b<;>rfl
 rw[S,VC];refine A7 (A6 (D8 Z Z (by omega)) Z (A6 (A8 Z Z) Z (B0 ?_)));refine k1 ?_;refine⟨i+1,by omega,by omega,?_⟩;rw[<-K];exact (Sees.of ⟨B1 rfl,B1 rfl,B1 rfl,B1 rfl,B1 rfl,B1 rfl,B1 rfl,B1 rfl,B1 rfl,B1 rfl,trivial⟩ ⟨rfl,rfl,trivial⟩)
theorem GS(g:Graph)(a b:Nat)(h:FewT g)(G:K2 g=0)(ha:a<g.length)(hb:b<g.length)(F:FnOk Tryz.prog 62 [F4 g,K0 (L8 g a b g.length)] (fun rs=>rs=[K0 (f0 g a b)])) :
  FnOk Tryz.prog 23 [F4 g,E6 a,E6 b] (fun rs=>rs=[K0 (f0 g a b),E6 0]):=by
 have v:=h.few;have k:=v.len;have I:=U8 G
 have J:=mU g [(a:Int),(b:Int)] h G (by simp) (fun x m=>by
  rcases VH.1 m with rfl | m
  ·exact⟨by omega,by omega⟩
  ·rw[List.mem_singleton.1 m];exact⟨by omega,by omega⟩)
 have D:=fL g a v I.rel ha;have E:=fL g b v I.rel hb;obtain⟨R,K⟩:∃R,R=f0 g a b:=⟨_,rfl⟩
 obtain⟨x,m⟩:∃x,x=F6 g [(a:Int)]:=⟨_,rfl⟩
 obtain⟨y,C⟩:∃y,y=F6 g [(b:Int)]:=⟨_,rfl⟩
 have O:x.length=g.length:=by rw[m,R1]
 have P:y.length=g.length:=by rw[C,R1]
 rw[<-m]at D;rw[<-C]at E;rw[<-K]at F ⊢;refine FnOk.intro Tryz.func23 (by decide) Z Z Z Z ?_;refine k2 ?_;refine A7 (A6 (G8 _ 1 G2) Z (A6 (A9 Z Z) Z (B0 ?_)));refine k1 (k2 (k2 ?_));refine A7 (A6 (A8 Z Z) Z (A6 (A8 Z Z) Z (A6 (A8 Z Z) Z (A6 (D2 (c:=G2) (ys:=[(a:Int),(b:Int)]) (D6 Z Z Z Z (D6 Z Z Z Z G1)) Z Z Z) Z (C8 (J) Z Z Z ?_)))));rintro _ rfl;refine A6 (A9 Z Z) Z (B0 ?_);refine k1 (k2 ?_);refine A7 (A6 (A8 Z Z) Z (A6 (P5 Z Z) Z (B0 ?_)));refine k1 ?_;refine B5 rfl (fun j=>?_) (fun j=>?_)
 ·exact absurd rfl (A0 j)
 refine k5 (k1 (k2 ?_));refine A7 (A6 (A8 Z Z) Z (A6 (A8 Z Z) Z (C8 (D) Z Z Z ?_)));rintro _ rfl;refine A6 (A8 Z Z) Z (A6 (A8 Z Z) Z (C8 (E) Z Z Z ?_));rintro _ rfl;refine A6 (A9 Z Z) Z (A6 (A9 Z Z) Z (B0 ?_));refine k1 (k2 ?_);refine A7 (D3 (V3 11 _ G2 Z) Z (B0 ?_));refine k1 (k2 (k2 ?_));refine A7 (A6 (A8 Z Z) Z (A6 (F7 Z (.pure _ _ _ _)) Z (A6 (A8 Z Z) Z (B0 ?_))));refine k1 (k3 ?_);refine D9 (X:=Nat) (fun i=>([(0,E2 Commit 3 E7 g),(9,E2 Bool 1 T3 x),(10,E2 Bool 1 T3 y),(11,.s (.one (.buf 11 Int 1 G2 (L8 g a b i)))),(28,D1 g.length),(29,D1 i)],[(11,.spare (L8 g a b i).length 1 3)])) (fun i=>i<=g.length) (fun i=>g.length-i) 0 (Nat.zero_le _) (Sees.of ⟨B1 rfl,B1 rfl,B1 rfl,B1 rfl,B1 rfl,B1 rfl,trivial⟩ ⟨rfl,trivial⟩) ?_;intro i M;dsimp only at M ⊢;have L:=dD g a b i;refine k2 ?_;refine A7 (A6 (F1 Z Z) Z (B0 ?_));refine k1 (k2 ?_);refine B5 rfl (fun j=>?_) (fun j=>?_);rotate_left
 ·have z:i=g.length:=by have q:=A1 j;(try dsimp only at q);omega
  rw[z];refine k6 (k2 ?_);refine A7 (A6 (A8 Z Z) Z (A6 (A8 Z Z) Z (C8 (F) Z Z Z ?_)));rintro _ rfl;refine A6 (A9 Z Z) Z (A6 (A9 Z Z) Z (B0 ?_));refine k1 (I8 ?_);exact B9 (rs:=[K0 R,E6 0]) (V2 rfl rfl rfl rfl rfl) rfl
 have H:i<g.length:=by have q:=A0 j;(try dsimp only at q);omega
 have A:x[i]?=some (E9 x i):=U1 (by omega);have B:y[i]?=some (E9 y i):=U1 (by omega);have d:=nI g a b i;have w:jJ g a b i=(E9 x i&&E9 y i):=by unfold jJ;rw[m,C]
 rw[w]at d;refine k5 (k1 (k2 (k3 (k2 ?_))));refine A7 (A6 (A8 Z Z) Z (A6 (A9 Z Z) Z (B0 ?_)));refine k1 (k2 ?_);refine A7 (A6 (A8 Z Z) Z (A6 (A8 Z Z) Z (A6 (B6 Z (.pure _ _ _ _) Z (by omega) A) Z (A6 (C0 Z Z) Z (A6 (A8 Z Z) Z (B3 Z Z Z Z (fun k=>by rw[k];exact A8 Z Z) ?_))))));refine B3 Z Z Z Z (fun k=>by rw[k];exact A8 Z Z) ?_;refine B3 Z Z Z Z (fun k=>by have N:=k;(try simp at N);rw[k];exact B6 Z (.pure _ _ _ _) Z (by omega) B) ?_;refine B3 Z Z Z Z (fun k=>by rw[k];exact C0 Z Z) ?_;refine A6 (C3 Z (fun h=>by first | rfl | (rw[h];rfl)) (fun h=>by first | rfl | (rw[h];rfl))) Z ?_;refine B0 ?_;refine k1 ?_;refine B5 rfl (fun j=>?_) (fun j=>?_)
 ·rw[dK]at j;rw[A4 j]at d;refine sL [(0,E2 Commit 3 E7 g),(9,E2 Bool 1 T3 x),(10,E2 Bool 1 T3 y),(11,.s (.one (.buf 11 Int 1 G2 (L8 g a b i)))),(12,D1 i),(28,D1 g.length),(29,D1 i)] [(11,.spare (L8 g a b i).length 1 3)] (Sees.of ⟨B1 rfl,B1 rfl,B1 rfl,B1 rfl,B1 rfl,B1 rfl,B1 rfl,trivial⟩ ⟨rfl,trivial⟩) ?_;skip;refine A7 (A6 (A8 Z Z) Z (A6 (A8 Z Z) Z (A6 (D2 (c:=G2) (ys:=[(i:Int)]) (D6 Z Z Z Z G1) Z Z Z) Z (D3 (L2 Z Z Z (.pure _ _ _ _) (by (simp only[VD,VI];omega)) Z) Z (A6 (A9 Z Z) Z (B0 ?_))))));rw[<-d];refine k4 (k1 ?_);refine A7 (A6 (D8 Z Z (by omega)) Z (A6 (A8 Z Z) Z (B0 ?_)));refine k1 ?_;refine⟨i+1,by omega,by omega,?_⟩;rw[d];exact (Sees.of ⟨B1 rfl,B1 rfl,B1 rfl,B1 rfl,B1 rfl,B1 rfl,trivial⟩ ⟨rfl,trivial⟩)
 ·rw[dK]at j;rw[A5 (by rw[j];decide)]at d;refine k5 (k4 (k1 ?_));refine A7 (A6 (D8 Z Z (by omega)) Z (A6 (A8 Z Z) Z (B0 ?_)));refine k1 ?_;refine⟨i+1,by omega,by omega,?_⟩;rw[d];exact (Sees.of ⟨B1 rfl,B1 rfl,B1 rfl,B1 rfl,B1 rfl,B1 rfl,trivial⟩ ⟨rfl,trivial⟩)
abbrev CH:Graph:=[⟨[],0,[⟨[120],[97,10,98,10]⟩]⟩,⟨[0],0,[⟨[120],[97,10,99,10]⟩]⟩]
theorem g33_few:FewT CH:=⟨⟨by decide,by decide⟩,fun c a=>by
 rcases VH.1 a with rfl | a
 ·exact⟨by decide,by decide,by decide⟩
 ·rw[List.mem_singleton.1 a];exact⟨by decide,by decide,by decide⟩⟩
abbrev wB:List Str:=[[98,97,115,101,115],[48],[49]]
abbrev cB:Cmd:=⟨9,0,1,0,false,[]⟩
abbrev wZ:List Str:=[[122,97,112]]
theorem RS:O0 [0]=[99,111,109,109,105,116,32,48,10]:=by
 unfold O0 KY o6 s8 x6 kW;simp only[VD,VI,List.take,VR,List.map_nil,HF 0 (by decide) (by decide)];decide
theorem PH:c9 320=[51,50,48]:=by
 unfold c9 Lib.itoa;rw[A5 (by decide),A5 (by decide)];have h:Lib.decDigits (320:Int).toNat=[51,50,48]:=by
  rw[Lib.decDigits,dif_neg (by decide),Lib.decDigits,dif_neg (by decide),Lib.decDigits,dif_pos (by decide)];decide
 exact h
theorem PI:kX 320=[101,114,114,111,114,32,51,50,48,10]:=by unfold kX;rw[PH];rfl
theorem NC:FnOk Tryz.prog 23 [F4 CH,E6 0,E6 1] (fun d=>d=[K0 [0],E6 0]):=by
 have b:L8 CH 0 1 2=[0]:=by kernel_rfl
 have a:=GR CH [0] g33_few.few (by kernel_rfl) (by decide) (by decide) (fun x c=>by rw[List.mem_singleton.1 c];kernel_rfl)
 have h:=GS CH 0 1 g33_few (by kernel_rfl) (by decide) (by decide) (by
  show FnOk _ _ [F4 CH,K0 (L8 CH 0 1 2)] _;rw[b,show f0 CH 0 1=[0] by kernel_rfl]
  exact a)
 rw[show f0 CH 0 1=[0] by kernel_rfl]at h;exact h
theorem KC:FnOk Tryz.prog 54 [F4 CH,H1 (M9 wB)] (fun rs=>rs=[H1 (aX (M9 wB) (O0 [0]) 0)]):=by
 have a:=pU wB (by decide) (by decide) (by decide);rw[show jB wB=(cB,0) by kernel_rfl]at a;have b:=vO CH cB (O0 [0]) 0 g33_few (by kernel_rfl) (by decide) (by kernel_rfl) (by decide) (fun _=>by decide) (by decide) ⟨fun h=>absurd h (by decide),fun h=>absurd h (by decide),fun h=>absurd h (by decide),fun h=>absurd h (by decide),fun h=>absurd h (by decide),fun h=>absurd h (by decide),fun _=>⟨[0],by decide,rfl,NC⟩⟩;exact mT CH (M9 wB) cB 0 (O0 [0]) 0 (by decide) (by rw[RS];decide) a fun _=>b
theorem KD(g:Graph)(a:List Str)(b:a≠[])(d:∀w∈a,w≠[]/\w.all O7=true/\w.length<=1048576)(f:(M9 a).length<=65536)(h:jB a=(jA,320)) :
  FnOk Tryz.prog 54 [F4 g,H1 (M9 a)] (fun rs=>rs=[H1 (aX (M9 a) [] 320)]):=by
 have c:=pU a b d (by omega);rw[h]at c;exact mT g (M9 a) jA 320 [] 320 f (by simp) c fun h=>absurd h (by decide)
abbrev RT:Str:=[62,32,98,97,115,101,115,32,48,32,49,10,99,111,109,109,105,116,32,48,10,62,32,122,97,112,10,101,114,114,111,114,32,51,50,48,10]
theorem pX:FnOk Tryz.prog 20 [] (fun rs=>rs=[H5 true]):=by
 have p:=KD CH wZ (by decide) (by decide) (by decide) (by kernel_rfl);have k:[aX (M9 wB) (O0 [0]) 0,aX (M9 wZ) [] 320].flatten=RT:=by
  unfold aX;rw[RS,PI];decide
 have j:=NB CH [98,97,115,101,115,32,48,32,49,10,122,97,112] [M9 wB,M9 wZ] [aX (M9 wB) (O0 [0]) 0,aX (M9 wZ) [] 320] g33_few (by kernel_rfl) (by decide) (by kernel_rfl) rfl (fun i m o b d=>by
  match i,b,d with
  | 0,b,d=>cases b;cases d;exact KC
  | 1,b,d=>cases b;cases d;exact p
  | i+2,b,_=>simp at b) (by rw[k];decide) (by decide)
 rw[k]at j;refine FnOk.intro Tryz.func20 (by decide) Z Z Z Z ?_;refine k2 ?_;refine A7 (A6 (A9 Z Z) Z (B0 ?_));refine k1 (k2 ?_);refine A7 (A6 (I9 Z) Z (A6 (D2 (c:=Q4) (ys:=[(⟨[120],[97,10,98,10]⟩:File)]) (D6 Z Z Z Z G1) Z Z Z) Z (A6 (I9 Z) Z (A6 (D2 (c:=G2) (ys:=[(0:Int)]) (D6 Z Z Z Z G1) Z Z Z) Z (A6 (I9 Z) Z (A6 (D2 (c:=Q4) (ys:=[(⟨[120],[97,10,99,10]⟩:File)]) (D6 Z Z Z Z G1) Z Z Z) Z (A6 (I9 Z) Z (OU ((UY Int 1 G2 6 0 Z Z)) (A6 (D2 (c:=E7) (ys:=CH) (D6 Z Z Z Z (D6 Z Z Z Z G1)) Z Z Z) Z (A6 (A9 Z Z) Z (B0 ?_)))))))))));refine k1 (k2 ?_);refine A7 (A6 (A8 Z Z) Z (C8 (j) Z Z Z ?_));rintro _ rfl;refine A6 (A8 Z Z) Z (A6 (C1 Z Z) Z (A6 (C1 Z Z) Z (A6 (A9 Z Z) Z (A6 (A9 Z Z) Z (B0 ?_)))));refine k1 (k2 ?_);refine A7 (A6 (A8 Z Z) Z (A6 (J1 Z Z) Z (A6 (A8 Z Z) Z (B3 Z Z Z Z (fun g=>by rw[g];exact A8 Z Z) ?_))));refine B3 Z Z Z Z (fun g=>by rw[g];exact a8 Z Z) ?_;refine A6 (C3 Z (fun h=>by first | rfl | (rw[h];rfl)) (fun h=>by first | rfl | (rw[h];rfl))) Z ?_;refine A6 (A9 Z Z) Z (B0 ?_);refine k1 (I8 ?_);exact B9 (rs:=[H5 true]) (I5 rfl rfl rfl) rfl
set_option maxHeartbeats 1000000
abbrev eN(l:List Int):Ob:=.grow 3 Int 1 G2 l
theorem CI{gf:Fr}(f:FuncId)(α:Type)(q:Nat)(c:α->Nat->Cell)(v:α)(b:Int->Bool)(l:List Int)(L:l.length<=1073741824)(I:∀x∈l,AL.Met Tryz.prog f [pS x,.one (.eref α q c v 0)] [] [] [] (fun H ob'=>H=[gU (b x)]/\ob'=[])) :
  AL.Met Tryz.prog 158 [.one (.mut 751),.one (.fncE f α q c v)] gf [(751,eN l)] [] (fun H ob'=>∃r:Int,H=[pS r]/\ob'=[(751,eN l)]/\((r = -1/\∀x∈l,b x=false)\/∃(i:Nat) (x:Int),r=i/\l[i]?=some x/\b x=true/\∀j,j<i->∀y,l[j]?=some y->b y=false)):=by
 refine AL.Met.introH Tryz.func158 (by decide) rfl rfl rfl (fun A=>?_);refine I7 (UF (gf':=gf) (l:=[(0,.s (.one (.mut 751))),(1,.s (.one (.fncE f α q c v)))]) (ob':=[(751,eN l)]) ⟨B1 rfl,B1 rfl,trivial⟩ A (by repeat (first | exact B7 | refine tail_drop rfl ?_ | refine B8 rfl ?_)) (fun _ _ h=>h)) ?_;refine k2 ?_;refine A7 (A6 (A9 Z Z) Z (B0 ?_));refine k1 (k2 (k2 ?_));refine A7 (A6 (A8 Z Z) Z (A6 (P9 Z Z) Z (A6 (A8 Z Z) Z (B0 ?_))));refine k1 (k3 ?_);refine D9 (X:=Nat) (fun i=>([(0,.s (.one (.mut 751))),(1,.s (.one (.fncE f α q c v))),(7,D1 l.length),(8,D1 i)]++gf,[(751,eN l)])) (fun i=>i<=l.length/\∀j,j<i->∀y,l[j]?=some y->b y=false) (fun i=>l.length-i) 0 ⟨Nat.zero_le _,fun j k=>absurd k (by omega)⟩ ?_ ?_
 ·exact UF ⟨B1 rfl,B1 rfl,B1 rfl,B1 rfl,trivial⟩ A (by repeat (first | exact B7 | refine tail_drop rfl ?_ | refine B8 rfl ?_)) (fun _ _ h=>h)
 rintro i ⟨J,d⟩;dsimp only at J d ⊢;refine k2 ?_;refine A7 (A6 (F1 Z Z) Z (B0 ?_));refine k1 (k2 ?_);refine B5 rfl (fun g=>?_) (fun g=>?_);rotate_left
 ·have K:i=l.length:=by have z:=A1 g;(try dsimp only at z);omega
  refine k6 (k2 ?_);refine A7 (A6 (A9 Z Z) Z (B0 ?_));refine k1 (I8 ?_)
  exact G9 (O9 rfl rfl) (by repeat (first | exact B7 | refine tail_drop rfl ?_ | refine B8 rfl ?_)) (fun _ _ h=>h) ⟨-1,rfl,rfl,.inl ⟨rfl,fun x w=>by
   obtain⟨j,k⟩:=List.mem_iff_getElem?.1 w
   exact d j (by have:=(List.getElem?_eq_some_iff.1 k).1;omega) x k⟩⟩
 have p:i<l.length:=by have z:=A0 g;(try dsimp only at z);omega
 obtain⟨x,w⟩:∃x,x=l[i]:=⟨_,rfl⟩
 have D:l[i]?=some x:=by rw[w];simp[p]
 have F:l[((i:Nat):Int).toNat]?=some x:=by rw[VC];exact D
 have B:=I x (by rw[w];exact VE p);refine k5 (k1 (k2 (k3 (k2 ?_))));refine A7 (A6 (A8 Z Z) Z (A6 (A9 Z Z) Z (B0 ?_)));refine k1 (k2 ?_);refine A7 (A6 (A8 Z Z) Z (A6 (A8 Z Z) Z (A6 (A8 Z Z) Z (A6 (F0 Z Z Z (by omega) (by omega)) Z (A6 (S3 Z Z F Z) Z (A6 (nY (B) Z Z Z) Z (B0 ?_)))))));refine k1 ?_;refine B5 rfl (fun g=>?_) (fun g=>?_)
 ·have C:b x=true:=g;refine k2 ?_;refine A7 (A6 (A8 Z Z) Z (A6 (A9 Z Z) Z (B0 ?_)));refine k1 (I8 (X4 (M6 (M6 (X4 (M6 ?_))))));exact G9 (O9 rfl rfl) (by repeat (first | exact B7 | refine tail_drop rfl ?_ | refine B8 rfl ?_)) (fun _ _ h=>h) ⟨(i:Int),rfl,rfl,.inr ⟨i,x,rfl,D,C,d⟩⟩
 ·have C:b x=false:=g;refine k5 (k4 (k1 ?_));refine A7 (A6 (D8 Z Z (by omega)) Z (A6 (A8 Z Z) Z (B0 ?_)));refine k1 ?_;refine⟨i+1,⟨by omega,fun j k y G=>?_⟩,by omega,UF ⟨B1 rfl,B1 rfl,B1 rfl,B1 rfl,trivial⟩ A (by repeat (first | exact B7 | refine tail_drop rfl ?_ | refine B8 rfl ?_)) (fun _ _ h=>h)⟩;by_cases e:j=i
  ·subst e;rw[D]at G;cases G;exact C
  ·exact d j (by omega) y G
theorem zD{gf:Fr}(f:FuncId)(α:Type)(H:Nat)(c:α->Nat->Cell)(v:α)(b:Int->Bool)(l:List Int)(hl:l.length<=1073741824)(hf:∀x∈l,AL.Met Tryz.prog f [pS x,.one (.eref α H c v 0)] [] [] [] (fun rs ob'=>rs=[gU (b x)]/\ob'=[])) :
  AL.Met Tryz.prog 105 [.one (.mut 751),.one (.fncE f α H c v)] gf [(751,eN l)] [751] (fun rs ob'=>rs=[.one (.mut 751)]/\ob'=[(751,eN (l.filter fun x=>!b x))]):=by
 have Q:=fun {gf:Fr}=>CI (gf:=gf) f α H c v b l hl hf;refine AL.Met.introH Tryz.func105 (by decide) rfl rfl rfl (fun I=>?_);refine I7 (UJ 751 (l:=[(0,.s (.one (.mut 751))),(1,.s (.one (.fncE f α H c v)))]) (L:=[(751,_)]) ⟨B1 rfl,B1 rfl,trivial⟩ I (by repeat (first | exact B7 | refine B8 rfl ?_)) ⟨rfl,trivial⟩) ?_;refine I7 (UF (gf':=C9 [751] gf) (l:=[(0,.s (.one (.mut 751))),(1,.s (.one (.fncE f α H c v)))]) (ob':=[(751,eN l)]) ⟨B1 rfl,B1 rfl,trivial⟩ (H8 I) (by repeat (first | exact B7 | refine tail_drop rfl ?_ | refine B8 rfl ?_)) (ObIn.spec (ob':=[(751,_)]) ⟨rfl,trivial⟩)) ?_;refine k2 ?_;refine A7 (A6 (G8 _ 1 G2) Z (B0 ?_));refine k1 (k2 ?_);refine A7 (A6 (A8 Z Z) Z (A6 (A8 Z Z) Z (W7 (Q) Z Z Z ?_)));rintro _ _ ⟨r,rfl,rfl,K⟩;refine A6 (A9 Z Z) Z (B0 ?_);refine k1 (k2 (k2 ?_));refine A7 (A6 (A8 Z Z) Z (A6 (J1 Z Z) Z (B0 ?_)));refine k1 ?_;rcases K with ⟨rfl,D⟩ | ⟨i,x,rfl,hv,hh,D⟩
 ·refine B5 rfl (fun d=>?_) (fun d=>?_);rotate_left
  ·exact absurd rfl (A1 d)
  have J:l.filter (fun x=>!b x)=l:=List.filter_eq_self.2 fun x hx=>by rw[D x hx];rfl
  rw[J];refine k2 ?_;refine A7 (A6 (A8 Z Z) Z (A6 (A9 Z Z) Z (B0 ?_)));refine k1 (I8 (M6 ?_));exact G9 (O9 rfl rfl) (by repeat (first | exact B7 | refine tail_drop rfl ?_ | refine B8 rfl ?_ | refine N9 _ rfl ?_)) (ObIn.spec (ob':=[(751,_)]) ⟨rfl,trivial⟩) ⟨rfl,rfl⟩
 refine B5 rfl (fun d=>?_) (fun d=>?_)
 ·exact absurd (A0 d) (by omega)
 have ad:i<l.length:=(List.getElem?_eq_some_iff.1 hv).1;obtain⟨P,U⟩:=DelI.start hv hh D;refine k5 (k1 (k2 (k2 ?_)));refine A7 (A6 (A8 Z Z) Z (A6 (D8 Z Z (by omega)) Z (A6 (A9 Z Z) Z (B0 ?_))));refine k1 (k3 ?_);refine D9 (X:=Nat×List Int) (fun y=>([(0,.s (.one (.mut 751))),(1,.s (.one (.fncE f α H c v))),(5,D1 (N3 b l y.1).length),(6,D1 y.1)]++C9 [751] gf,[(751,eN y.2)])) (fun y=>DelI b l y.1 y.2) (fun y=>l.length-y.1) (i+1,l) P ?_ ?_
 ·dsimp only;rw[U];exact UF ⟨B1 rfl,B1 rfl,B1 rfl,B1 rfl,trivial⟩ (H8 I) (by repeat (first | exact B7 | refine tail_drop rfl ?_ | refine B8 rfl ?_ | refine N9 _ rfl ?_)) (ObIn.spec (ob':=[(751,_)]) ⟨rfl,trivial⟩)
 rintro⟨j,L⟩ q;dsimp only at q ⊢;have ac:=q.len;have T:=q.lt;have ab:=q.le;obtain⟨t,p⟩:∃t,t=(N3 b l j).length:=⟨_,rfl⟩
 rw[<-p]at T ⊢;refine k2 (k2 ?_);refine A7 (A6 (A8 Z Z) Z (A6 (A8 Z Z) Z (A6 (P9 Z Z) Z (A6 (F1 Z Z) Z (B0 ?_)))));refine k1 ?_;refine B5 rfl (fun d=>?_) (fun d=>?_);rotate_left
 ·have S:j=l.length:=by have O:=A1 d;(try dsimp only at O);omega
  rw[S]at q p;have A:=q.fin;rw[<-p]at A;have V:(L.take t++List.replicate (L.length-t) (0:Int)).take t=L.take t:=List.take_left' (by rw[VM];omega);refine k6 (k2 ?_);refine A7 (A6 (A8 Z Z) Z (A6 (A8 Z Z) Z (A6 (AK Z Z Z (by omega) (by omega)) Z (H3 (IF (0:Int) Z Z (by omega) (by omega) Z (fun _=>⟨rfl,rfl⟩)) (B0 ?_)))));rw[VC];refine k1 (k2 ?_);refine A7 (A6 (A8 Z Z) Z (A6 (A8 Z Z) Z (D3 (bZ Z Z Z (by omega) (by (simp;omega)) Z) Z (A6 (A9 Z Z) Z (B0 ?_)))));rw[VC,V,A];refine k1 (I8 ?_);exact G9 (O9 rfl rfl) (by repeat (first | exact B7 | refine tail_drop rfl ?_ | refine B8 rfl ?_ | refine N9 _ rfl ?_)) (ObIn.spec (ob':=[(751,_)]) ⟨rfl,trivial⟩) ⟨rfl,rfl⟩
 have B:j<l.length:=by have O:=A0 d;(try dsimp only at O);omega
 obtain⟨G,M⟩:∃x,x=l[j]:=⟨_,rfl⟩
 have F:l[j]?=some G:=by rw[M];simp[B]
 have W:L[((j:Nat):Int).toNat]?=some G:=by rw[VC,q.at_];exact F
 have R:=hf G (by rw[M];exact VE B);refine k5 (k1 (k2 (k3 (k2 ?_))));refine A7 (A6 (A8 Z Z) Z (A6 (A8 Z Z) Z (A6 (F0 Z Z Z (by omega) (by omega)) Z (A6 (S3 Z Z W Z) Z (A6 (A9 Z Z) Z (B0 ?_))))));refine k1 (k2 ?_);refine A7 (A6 (A8 Z Z) Z (A6 (A8 Z Z) Z (A6 (nY (R) Z Z Z) Z (A6 (Y7 Z) Z (B0 ?_)))));refine k1 ?_;refine B5 rfl (fun d=>?_) (fun d=>?_)
 ·have C:b G=false:=by simpa using d
  obtain⟨w,z⟩:=q.keep F C;rw[<-p]at w z;have Y:L[((t:Nat):Int).toNat]?=some (L[t]'(by omega)):=by rw[VC];exact VA _
  refine k2 ?_;refine A7 (A6 (A8 Z Z) Z (A6 (A8 Z Z) Z (A6 (A8 Z Z) Z (A6 (F0 Z Z Z (by omega) (by omega)) Z (H3 (Z1 (G) TySz.out Z Z Y Z Z Z Z (fun _ _ _ h=>W8 h) (by intro j O h2;rcases j with _ | _ | _ | _ | _ | _ | _ | j<;>first | rfl | omega)) ?_)))));refine B0 ?_;rw[VC];refine k1 ?_;refine A7 (A6 (A8 Z Z) Z (A6 (D8 Z Z (by omega)) Z (A6 (A9 Z Z) Z (B0 ?_))));refine k4 (k1 ?_);refine A7 (A6 (A8 Z Z) Z (A6 (D8 Z Z (by omega)) Z (A6 (A9 Z Z) Z (B0 ?_))));refine k1 ?_;refine⟨(j+1,L.set t G),w,by dsimp only;omega,?_⟩;dsimp only;rw[z];exact UF ⟨B1 rfl,B1 rfl,B1 rfl,B1 rfl,trivial⟩ (H8 I) (by repeat (first | exact B7 | refine tail_drop rfl ?_ | refine B8 rfl ?_ | refine N9 _ rfl ?_)) (ObIn.spec (ob':=[(751,_)]) ⟨rfl,trivial⟩)
 ·have C:b G=true:=by simpa using d
  obtain⟨w,z⟩:=q.drop F C;refine k5 (k4 (k1 ?_));refine A7 (A6 (A8 Z Z) Z (A6 (D8 Z Z (by omega)) Z (A6 (A9 Z Z) Z (B0 ?_))));refine k1 ?_;refine⟨(j+1,L),w,by dsimp only;omega,?_⟩;dsimp only;rw[z,<-p];exact UF ⟨B1 rfl,B1 rfl,B1 rfl,B1 rfl,trivial⟩ (H8 I) (by repeat (first | exact B7 | refine tail_drop rfl ?_ | refine B8 rfl ?_ | refine N9 _ rfl ?_)) (ObIn.spec (ob':=[(751,_)]) ⟨rfl,trivial⟩)
theorem getO_mapO(f:Ob->Ob):∀(ob:Obs) (j:Nat),C5 (UH f ob) j=(C5 ob j).map f
 | [],_=>rfl
 | (i,o)::r,j=>by
  show C5 ((i,f o)::UH f r) j=_;by_cases e:i=j
  ·subst e;rw[E8,E8];rfl
  ·rw[C7 e,C7 e,getO_mapO f r j]
theorem pY{k:Nat}{α:Type}{e:Nat}{c:α->Nat->Cell}{g:List α}{s:SV}(h:s.free k=true):s.freeze k α e c g=s:=by
 cases s with
 | s x=>cases x with
  | one t=>simp only[SV.freeze,S1.freeze,TC.freeze_free (show t.free k=true from h)]
  | agg b=>simp only[SV.freeze,S1.freeze];rw[Q0 fun t a=>TC.freeze_free (List.all_eq_true.1 (show b.all (TC.free k)=true from h) t a)]
 | tup l =>
  simp only[SV.freeze];rw[Q0 fun x f=>?_];have d:=List.all_eq_true.1 (show l.all (S1.free k)=true from h) x f;cases x with
  | one t=>simp only[S1.freeze,TC.freeze_free (show t.free k=true from d)]
  | agg b=>simp only[S1.freeze];rw[Q0 fun t a=>TC.freeze_free (List.all_eq_true.1 (show b.all (TC.free k)=true from d) t a)]
 | _=>rfl
theorem KE{F:Fr}{i:Nat}{s:SV}:E0 F i=some s->∃p∈F,p.2=s:=by
 induction F with
 | nil=>intro h;cases h
 | cons p r c =>
  obtain⟨j,t⟩:=p;intro h;by_cases e:j=i
  ·subst e;rw[D7]at h;cases h;exact⟨_,List.mem_cons_self ..,rfl⟩
  ·rw[C6 e]at h;obtain⟨q,a,b⟩:=c h;exact⟨q,List.mem_cons_of_mem _ a,b⟩
theorem KF{a:List Nat}{k:Nat}{α:Type}{b:Nat}{c:α->Nat->Cell}{e:List α}{gf fr:Fr}(g:K7 a k=true)(h:Tail (C9 a gf) fr):Tail (C9 a gf) (UM (SV.freeze k α b c e) fr):=by
 intro i s f d;have:=h i s f d;rw[fF,this];obtain⟨p,j,rfl⟩:=KE d;show some (p.2.freeze k α b c e)=some p.2;rw[pY (l0 g p j)]
theorem m9{i k:Nat}{s:SV}{r:Fr}(a:s.free k=true)(b:H4 k r=true):H4 k ((i,s)::r)=true:=by
 simp only[H4,a,b,Bool.and_self]
theorem PJ{a b:Bool}(c:a=true)(d:b=true):(a&&b)=true:=by rw[c,d];rfl
abbrev GW:List Nat:=[751,760,770]
theorem zE{gf:Fr}(g:Graph)(l:List Int)(hF:FewG g)(hr:related g=true)(hl:l.length<=1000)(H:∀x∈l,0<=x/\x<(g.length:Int)) :
  AL.Met Tryz.prog 62 [.one (.p (.list Commit 3 E7 g)),.one (.mut 751)] gf [(751,eN l)] GW (fun rs ob'=>rs=[.one (.mut 751)]/\ob'=[(751,eN (l7 g l))]):=by
 have w:=hF.len;refine AL.Met.introH Tryz.func62 (by decide) rfl rfl rfl (fun G=>?_);refine I7 (UJ 751 (l:=[(0,E2 Commit 3 E7 g),(1,.s (.one (.mut 751)))]) (L:=[(751,_)]) ⟨B1 rfl,B1 rfl,trivial⟩ G (by repeat (first | exact B7 | refine B8 rfl ?_)) ⟨rfl,trivial⟩) ?_;refine I7 (Sees.forget 760) ?_;refine I7 (Sees.forget 770) ?_;refine I7 (UF (gf':=C9 GW gf) (l:=[(0,E2 Commit 3 E7 g),(1,.s (.one (.mut 751)))]) (ob':=[(751,eN l)]) ⟨B1 rfl,B1 rfl,trivial⟩ (H8 G) (by repeat (first | exact B7 | refine tail_drop rfl ?_ | refine B8 rfl ?_ | refine N9 _ rfl ?_)) (ObIn.spec (ob':=[(751,_)]) ⟨rfl,trivial⟩)) ?_;have S:H4 760 (C9 GW gf)=true:=iS (l0 rfl);refine k2 ?_;refine A7 (A6 (G8 _ 1 G2) Z (B0 ?_));refine k1 (k2 ?_);refine A7 (A6 (A8 Z Z) Z (A6 (F7 Z (.pure _ _ _ _)) Z (D3 (fG 760 Bool T3 false Z Z (by omega) (by omega) (fun _=>by first | exact⟨⟨rfl,rfl⟩,trivial⟩ | exact⟨J2 _ _ _,trivial⟩ | exact⟨J2 _ _ _,⟨rfl,rfl⟩,J2 _ _ _,trivial⟩ | exact⟨⟨rfl,rfl⟩,⟨rfl,rfl⟩,trivial⟩) (PJ (m9 Z (m9 Z (m9 Z (m9 Z (m9 Z S))))) Z)) Z ?_)));refine D3 (EA 770 Z (by decide)) Z (H3 (D5 TySz.out Z Z Z Z Z Z) (B0 ?_));rw[VC];refine k1 (k2 (k2 ?_));refine A7 (A6 (A8 Z Z) Z (A6 (P9 Z Z) Z (A6 (A8 Z Z) Z (B0 ?_))));refine k1 (k3 ?_);refine D9 (X:=Nat) (fun k=>([(0,E2 Commit 3 E7 g),(1,.s (.one (.mut 751))),(5,.s (.one (.ref 770 0))),(13,.s (.one (.mut 751))),(14,D1 l.length),(15,D1 k)]++C9 GW gf,[(751,eN l),(770,.box [.mut 760]),(760,.arr Bool 1 T3 (P7 g l k))])) (fun k=>k<=l.length) (fun k=>l.length-k) 0 (Nat.zero_le _) ?_ ?_
 ·dsimp only;rw[show P7 g l 0=List.replicate g.length false by simp[P7,T4]];exact UF ⟨B1 rfl,B1 rfl,B1 rfl,B1 rfl,B1 rfl,B1 rfl,trivial⟩ (H8 G) (by repeat (first | exact B7 | refine tail_drop rfl ?_ | refine B8 rfl ?_ | refine N9 _ rfl ?_)) (ObIn.spec (ob':=[(751,_),(770,_),(760,_)]) ⟨rfl,rfl,rfl,trivial⟩)
 intro k hk;dsimp only at hk ⊢;have J:=mW g l k;refine k2 ?_;refine A7 (A6 (F1 Z Z) Z (B0 ?_));refine k1 (k2 ?_);refine B5 rfl (fun I=>?_) (fun I=>?_);rotate_left
 ·have U:k=l.length:=by have F:=A1 I;(try dsimp only at F);omega
  obtain⟨cov,D⟩:∃cov,cov=T4 g l (List.replicate g.length false):=⟨_,rfl⟩
  have Q:P7 g l k=cov:=by rw[U,D];unfold P7;rw[VJ]
  have K:l7 g l=l.filter fun x=>!E9 cov x.toNat:=by rw[D];rfl
  rw[Q]at J ⊢;have hM:=fun {gf:Fr}=>zD (gf:=gf) 106 Unit 1 (GQ cov) () (fun x=>E9 cov x.toNat) l (by omega) (fun x hx=>pW cov x (E9 cov x.toNat) (H x hx).1 (U1 (by have:=H x hx;omega)));refine I7 (Sees.freeze (k:=760) Z) ?_;refine I7 (Sees.shutB (t:=5) (k:=770) (cs:=[Cell.list Bool 1 T3 cov]) (α:=Unit) (c:=GQ cov) () Z Z (fun j hj=>by cases j with | zero=>rfl | succ j=>exact absurd hj (by simp))) ?_;refine I7 (UF (gf':=C9 GW gf) (l:=[(1,.s (.one (.mut 751))),(5,.s (.one (.eref Unit 1 (GQ cov) () 0)))]) (ob':=[(751,eN l)]) ⟨B1 rfl,B1 rfl,trivial⟩ (H8 G) (by repeat (first | exact B7 | refine tail_drop rfl ?_ | refine B8 rfl ?_ | refine N9 _ rfl ?_ | refine KF rfl ?_)) (ObIn.spec (ob':=[(751,_)]) ⟨rfl,trivial⟩)) ?_;refine k6 (k2 ?_);refine A7 (A6 (A8 Z Z) Z (A6 (eG Z) Z (W7 (hM) Z Z Z ?_)));rintro _ _ ⟨rfl,rfl⟩;refine A6 (A9 Z Z) Z (B0 ?_);rw[K];refine k1 (I8 ?_);exact G9 (O9 rfl rfl) (by repeat (first | exact B7 | refine tail_drop rfl ?_ | refine B8 rfl ?_ | refine N9 _ rfl ?_)) (ObIn.spec (ob':=[(751,_)]) ⟨rfl,trivial⟩) ⟨rfl,rfl⟩
 have E:k<l.length:=by have F:=A0 I;(try dsimp only at F);omega
 obtain⟨c,hc⟩:∃c,c=l[k]:=⟨_,rfl⟩
 have hv:l[k]?=some c:=by rw[hc];exact VA E
 have ae:=H c (by rw[hc];exact VE E);obtain⟨y,P⟩:∃n:Nat,c=(n:Int):=⟨c.toNat,by omega⟩
 subst P;have Y:l[((k:Nat):Int).toNat]?=some (y:Int):=by rw[VC];exact hv
 have hA:=fL g y hF hr (by omega);have B:=kH (g:=g) hv;obtain⟨R,O⟩:∃R,R=F6 g [(y:Int)]:=⟨_,rfl⟩
 have ad:R.length=g.length:=by rw[O,R1]
 obtain⟨C,hC⟩:∃C,C=P7 g l k:=⟨_,rfl⟩
 rw[<-hC]at B J ⊢;rw[<-O]at hA;refine k5 (k1 (k2 (k3 (k2 ?_))));refine A7 (A6 (F0 Z Z Z (by omega) (by omega)) Z (A6 (S3 Z Z Y Z) Z (A6 (A9 Z Z) Z (B0 ?_))));refine k1 (k2 ?_);refine A7 (A6 (A8 Z Z) Z (A6 (A8 Z Z) Z (C8 (hA) Z Z Z ?_)));rintro _ rfl;refine A6 (F7 Z (.pure _ _ _ _)) Z (A6 (A8 Z Z) Z (B0 ?_));refine k1 (k3 ?_);refine D9 (X:=Nat) (fun i=>([(0,E2 Commit 3 E7 g),(1,.s (.one (.mut 751))),(5,.s (.one (.ref 770 0))),(7,D1 y),(13,.s (.one (.mut 751))),(14,D1 l.length),(15,D1 k),(21,E2 Bool 1 T3 R),(22,D1 R.length),(23,D1 i)]++C9 GW gf,[(751,eN l),(770,.box [.mut 760]),(760,.arr Bool 1 T3 (J5 g C y i))])) (fun i=>i<=g.length) (fun i=>g.length-i) 0 (Nat.zero_le _) ?_ ?_
 ·dsimp only;rw[rG];exact UF ⟨B1 rfl,B1 rfl,B1 rfl,B1 rfl,B1 rfl,B1 rfl,B1 rfl,B1 rfl,B1 rfl,B1 rfl,trivial⟩ (H8 G) (by repeat (first | exact B7 | refine tail_drop rfl ?_ | refine B8 rfl ?_ | refine N9 _ rfl ?_)) (ObIn.spec (ob':=[(751,_),(770,_),(760,_)]) ⟨rfl,rfl,rfl,trivial⟩)
 intro i hi;dsimp only at hi ⊢;have q:=V7 g C y i;refine k2 ?_;refine A7 (A6 (F1 Z Z) Z (B0 ?_));refine k1 (k2 ?_);refine B5 rfl (fun I=>?_) (fun I=>?_);rotate_left
 ·have T:i=g.length:=by have F:=A1 I;(try dsimp only at F);omega
  refine k6 (k7 (k7 (k8 Z (k4 (k1 ?_)))));refine A7 (A6 (D8 Z Z (by omega)) Z (A6 (A8 Z Z) Z (B0 ?_)));refine k1 ?_;refine⟨k+1,by omega,by omega,?_⟩;rw[B,<-T];exact UF ⟨B1 rfl,B1 rfl,B1 rfl,B1 rfl,B1 rfl,B1 rfl,trivial⟩ (H8 G) (by repeat (first | exact B7 | refine tail_drop rfl ?_ | refine B8 rfl ?_ | refine N9 _ rfl ?_)) (ObIn.spec (ob':=[(751,_),(770,_),(760,_)]) ⟨rfl,rfl,rfl,trivial⟩)
 have ac:i<g.length:=by have F:=A0 I;(try dsimp only at F);omega
 obtain⟨b,hb⟩:∃b,b=E9 R i:=⟨_,rfl⟩
 have W:R[i]?=some b:=by rw[hb];exact U1 (by omega)
 obtain⟨o,ho⟩:∃o,o=E9 (J5 g C y i) i:=⟨_,rfl⟩
 have ab:(J5 g C y i)[((i:Nat):Int).toNat]?=some o:=by rw[ho,VC];exact U1 (by rw[q];omega)
 have M:=rI (g:=g) (cov:=C) (c:=(y:Int)) (n:=i) (by omega);rw[<-ho,<-O,<-hb]at M;refine k5 (k1 (k2 (k3 (k2 ?_))));refine A7 (A6 (A8 Z Z) Z (A6 (B6 Z (.pure _ _ _ _) Z (by omega) W) Z (A6 (C0 Z Z) Z (A6 (A9 Z Z) Z (A6 (A9 Z Z) Z (B0 ?_))))));refine k1 ?_;refine H2 (by kernel_rfl) (by kernel_rfl) (C2 (B4 Z Z Z) Z Z (C2 (A8 Z Z) Z Z (C2 (B4 Z Z Z) Z Z (C2 (A8 Z Z) Z Z (C2 (E5 Z Z Z (by omega) (by (rw[q];omega))) Z Z ?_)))));refine C2 (L9 Z Z ab Z) Z Z (C2 (A8 Z Z) Z Z (F8 Z Z (fun w=>by rw[w];exact A8 Z Z) Z Z ?_));refine F8 Z Z (fun w=>by rw[w];exact A8 Z Z) Z Z ?_;refine bC Z Z (.gd (.val _)) (fun w=>by obtain⟨z,A⟩:=Y2 w;(try rw[z]);(try rw[A]);exact A8 Z Z) Z Z ?_;refine bC Z Z (.gd (.val _)) (fun w=>by obtain⟨z,A⟩:=Y2 w;(try rw[z]);(try rw[A]);exact A8 Z Z) Z Z ?_;refine bC Z Z (.gd (.val _)) (fun w=>by obtain⟨z,A⟩:=Y2 w;(try rw[z]);(try rw[A]);exact P5 Z Z) Z Z ?_;refine F8 Z Z (fun w=>by rw[w];exact C3 Z (fun h=>by first | rfl | (rw[h];rfl)) (fun h=>by first | rfl | (rw[h];rfl))) Z Z ?_;refine C2 (C3 Z (fun h=>by first | rfl | (rw[h];rfl)) (fun h=>by first | rfl | (rw[h];rfl))) Z Z ?_;refine C2 (E5 Z Z Z (by omega) (by (rw[q];omega))) Z Z ?_;refine IR (K9 TySz.out Z Z (by (rw[q];omega)) Z Z) Z ?_;refine i7 ?_;refine k4 (k1 ?_);have V:(if o=true then true else if b=true then decide ((i:Int)≠(y:Int)) else false)=(o||(b&&decide ((i:Int)≠(y:Int)))):=by cases o<;>cases b<;>rfl
 rw[V,VC];refine A7 (A6 (D8 Z Z (by omega)) Z (A6 (A8 Z Z) Z (B0 ?_)));refine k1 ?_;refine⟨i+1,by omega,by omega,?_⟩;rw[<-M];exact UF ⟨B1 rfl,B1 rfl,B1 rfl,B1 rfl,B1 rfl,B1 rfl,B1 rfl,B1 rfl,B1 rfl,B1 rfl,trivial⟩ (H8 G) (by repeat (first | exact B7 | refine tail_drop rfl ?_ | refine B8 rfl ?_ | refine N9 _ rfl ?_)) (ObIn.spec (ob':=[(751,_),(770,_),(760,_)]) ⟨rfl,rfl,rfl,trivial⟩)
theorem CJ(g:Graph)(a b:Nat)(h:FewT g)(G:K2 g=0)(ha:a<g.length)(hb:b<g.length) :
  FnOk Tryz.prog 23 [F4 g,E6 a,E6 b] (fun rs=>rs=[K0 (f0 g a b),E6 0]):=by
 have q:=h.few;have j:=q.len;have A:=U8 G
 have I:=mU g [(a:Int),(b:Int)] h G (by simp) (fun x l=>by
  rcases VH.1 l with rfl | l
  ·exact⟨by omega,by omega⟩
  ·rw[List.mem_singleton.1 l];exact⟨by omega,by omega⟩)
 have E:=fL g a q A.rel ha;have F:=fL g b q A.rel hb;obtain⟨x,l⟩:∃x,x=F6 g [(a:Int)]:=⟨_,rfl⟩
 obtain⟨y,D⟩:∃y,y=F6 g [(b:Int)]:=⟨_,rfl⟩
 have M:x.length=g.length:=by rw[l,R1]
 have N:y.length=g.length:=by rw[D,R1]
 rw[<-l]at E;rw[<-D]at F;refine FnOk.intro Tryz.func23 (by decide) Z Z Z Z ?_;refine k2 ?_;refine A7 (A6 (G8 _ 1 G2) Z (A6 (A9 Z Z) Z (B0 ?_)));refine k1 (k2 (k2 ?_));refine A7 (A6 (A8 Z Z) Z (A6 (A8 Z Z) Z (A6 (A8 Z Z) Z (A6 (D2 (c:=G2) (ys:=[(a:Int),(b:Int)]) (D6 Z Z Z Z (D6 Z Z Z Z G1)) Z Z Z) Z (C8 (I) Z Z Z ?_)))));rintro _ rfl;refine A6 (A9 Z Z) Z (B0 ?_);refine k1 (k2 ?_);refine A7 (A6 (A8 Z Z) Z (A6 (P5 Z Z) Z (B0 ?_)));refine k1 ?_;refine B5 rfl (fun f=>?_) (fun f=>?_)
 ·exact absurd rfl (A0 f)
 refine k5 (k1 (k2 ?_));refine A7 (A6 (A8 Z Z) Z (A6 (A8 Z Z) Z (C8 (E) Z Z Z ?_)));rintro _ rfl;refine A6 (A8 Z Z) Z (A6 (A8 Z Z) Z (C8 (F) Z Z Z ?_));rintro _ rfl;refine A6 (A9 Z Z) Z (A6 (A9 Z Z) Z (B0 ?_));refine k1 (k2 ?_);refine A7 (D3 (oQ 751 _ G2 Z) Z (B0 ?_));refine k1 (k2 (k2 ?_));refine A7 (A6 (A8 Z Z) Z (A6 (F7 Z (.pure _ _ _ _)) Z (A6 (A8 Z Z) Z (B0 ?_))));refine k1 (k3 ?_);refine D9 (X:=Nat) (fun i=>([(0,E2 Commit 3 E7 g),(9,E2 Bool 1 T3 x),(10,E2 Bool 1 T3 y),(11,.s (.one (.mut 751))),(28,D1 g.length),(29,D1 i)],[(751,eN (L8 g a b i))])) (fun i=>i<=g.length) (fun i=>g.length-i) 0 (Nat.zero_le _) (Sees.of ⟨B1 rfl,B1 rfl,B1 rfl,B1 rfl,B1 rfl,B1 rfl,trivial⟩ ⟨rfl,trivial⟩) ?_;intro i K;dsimp only at K ⊢;have J:=dD g a b i;refine k2 ?_;refine A7 (A6 (F1 Z Z) Z (B0 ?_));refine k1 (k2 ?_);refine B5 rfl (fun f=>?_) (fun f=>?_);rotate_left
 ·have z:i=g.length:=by have v:=A1 f;(try dsimp only at v);omega
  rw[z];refine k6 (k2 ?_);refine sL [(0,E2 Commit 3 E7 g),(11,.s (.one (.mut 751)))] [(751,eN (L8 g a b g.length))] (Sees.of ⟨B1 rfl,B1 rfl,trivial⟩ ⟨rfl,trivial⟩) ?_;refine A7 (A6 (A8 Z Z) Z (A6 (A8 Z Z) Z (W7 (zE g (L8 g a b g.length) q A.rel (by have:=dD g a b g.length;omega) DQ) Z Z Z ?_)));rintro _ _ ⟨rfl,rfl⟩;refine A6 (A9 Z Z) Z (A6 (A9 Z Z) Z (B0 ?_));refine I7 (Sees.freezeG (k:=751) (α:=Int) (ec:=1) (c:=G2) (xs:=f0 g a b) (e:=3) Z Z) ?_;refine I8 ?_;exact B9 (rs:=[K0 (f0 g a b),E6 0]) (V2 rfl rfl rfl rfl rfl) rfl
 have H:i<g.length:=by have v:=A0 f;(try dsimp only at v);omega
 have B:x[i]?=some (E9 x i):=U1 (by omega);have C:y[i]?=some (E9 y i):=U1 (by omega);have d:=nI g a b i;have w:jJ g a b i=(E9 x i&&E9 y i):=by unfold jJ;rw[l,D]
 rw[w]at d;refine k5 (k1 (k2 (k3 (k2 ?_))));refine A7 (A6 (A8 Z Z) Z (A6 (A9 Z Z) Z (B0 ?_)));refine k1 (k2 ?_);refine A7 (A6 (A8 Z Z) Z (A6 (A8 Z Z) Z (A6 (B6 Z (.pure _ _ _ _) Z (by omega) B) Z (A6 (C0 Z Z) Z (A6 (A8 Z Z) Z (B3 Z Z Z Z (fun j=>by rw[j];exact A8 Z Z) ?_))))));refine B3 Z Z Z Z (fun j=>by rw[j];exact A8 Z Z) ?_;refine B3 Z Z Z Z (fun j=>by have L:=j;(try simp at L);rw[j];exact B6 Z (.pure _ _ _ _) Z (by omega) C) ?_;refine B3 Z Z Z Z (fun j=>by rw[j];exact C0 Z Z) ?_;refine A6 (C3 Z (fun h=>by first | rfl | (rw[h];rfl)) (fun h=>by first | rfl | (rw[h];rfl))) Z ?_;refine B0 ?_;refine k1 ?_;refine B5 rfl (fun f=>?_) (fun f=>?_)
 ·rw[dK]at f;rw[A4 f]at d;refine sL [(0,E2 Commit 3 E7 g),(9,E2 Bool 1 T3 x),(10,E2 Bool 1 T3 y),(11,.s (.one (.mut 751))),(12,D1 i),(28,D1 g.length),(29,D1 i)] [(751,eN (L8 g a b i))] (Sees.of ⟨B1 rfl,B1 rfl,B1 rfl,B1 rfl,B1 rfl,B1 rfl,B1 rfl,trivial⟩ ⟨rfl,trivial⟩) ?_;skip;refine A7 (A6 (A8 Z Z) Z (A6 (A8 Z Z) Z (A6 (D2 (c:=G2) (ys:=[(i:Int)]) (D6 Z Z Z Z G1) Z Z Z) Z (D3 (T9 Z Z Z (.pure _ _ _ _) (by (simp only[VD,VI];omega)) Z) Z (A6 (A9 Z Z) Z (B0 ?_))))));rw[<-d];refine k4 (k1 ?_);refine A7 (A6 (D8 Z Z (by omega)) Z (A6 (A8 Z Z) Z (B0 ?_)));refine k1 ?_;refine⟨i+1,by omega,by omega,?_⟩;rw[d];exact (Sees.of ⟨B1 rfl,B1 rfl,B1 rfl,B1 rfl,B1 rfl,B1 rfl,trivial⟩ ⟨rfl,trivial⟩)
 ·rw[dK]at f;rw[A5 (by rw[f];decide)]at d;refine k5 (k4 (k1 ?_));refine A7 (A6 (D8 Z Z (by omega)) Z (A6 (A8 Z Z) Z (B0 ?_)));refine k1 ?_;refine⟨i+1,by omega,by omega,?_⟩;rw[d];exact (Sees.of ⟨B1 rfl,B1 rfl,B1 rfl,B1 rfl,B1 rfl,B1 rfl,trivial⟩ ⟨rfl,trivial⟩)
theorem vQ(n:Nat)(d:n<=1000000):AL.Met Tryz.prog 160 [.one (.p (.v (.slice none 0 0))),pS n] [] [] [] (fun rs ob'=>rs=[.one (.mut 803)]/\ob'=[(803,EN [])]):=by
 refine AL.Met.intro Tryz.func160 (by decide) Z Z Z ?_;refine k2 ?_;refine A7 (A6 (G8 _ 2 aE) Z (B0 ?_));refine k1 (k2 (k2 ?_));refine A7 (A6 (A8 Z Z) Z (A6 (F1 Z Z) Z (B0 ?_)));refine k1 ?_;refine B5 rfl (fun a=>?_) (fun a=>?_)
 ·have b:=A0 a;omega
 refine k5 (k1 (k2 (k2 ?_)));refine A7 (A6 (A8 Z Z) Z (A6 (A8 Z Z) Z (A6 (sY Z) Z (A6 (A8 Z Z) Z (A6 (sE Z) Z (A6 (O3 Z Z (by omega)) Z (A6 (O3 Z Z (by omega)) Z (A6 (A9 Z Z) Z (B0 ?_)))))))));rw[show (n:Int)-(0-0)=(n:Int) by omega];refine k1 (k2 ?_);refine A7 (A6 (A8 Z Z) Z (A6 (N5 Z Z) Z (B0 ?_)));refine k1 ?_;refine B5 rfl (fun a=>?_) (fun a=>?_)
 ·have b:=A0 a;skip;refine A7 (A6 (A8 Z Z) Z (A6 (A8 Z Z) Z (A6 (sY Z) Z (A6 (rQ Z Z) Z (A6 (A8 Z Z) Z (D3 (FQ 803 Z Z (by omega) (by omega) Z Z) Z (A6 (A8 Z Z) Z (A6 (sE Z) Z (D3 (bZ Z Z Z (by omega) (by omega) Z) Z (A6 (A9 Z Z) Z (B0 ?_)))))))))));refine k1 (k2 ?_);rw[show Int.toNat 0=0 from rfl,List.take_zero];refine I7 (UZ (k:=803) (Str×Str) aE Z) ?_;refine A7 (A6 (A8 Z Z) Z (A6 (A9 Z Z) Z (B0 ?_)));refine k1 (I8 ?_);exact G9 (O9 rfl rfl) (by repeat (first | exact B7 | refine B8 rfl ?_ | refine E1 _ ?_)) (ObIn.spec (ob':=[(803,EN [])]) ⟨rfl,trivial⟩) ⟨rfl,rfl⟩
 ·refine I7 (UW 0 803 (Str×Str) 2 aE 124 Z Z) ?_;refine k5 (k1 (k2 ?_));refine A7 (A6 (A8 Z Z) Z (A6 (A9 Z Z) Z (B0 ?_)));refine k1 (I8 ?_);exact G9 (O9 rfl rfl) (by repeat (first | exact B7 | refine B8 rfl ?_ | refine E1 _ ?_)) (ObIn.spec (ob':=[(803,EN [])]) ⟨rfl,trivial⟩) ⟨rfl,rfl⟩
theorem rY(B:List (List (Str×Str)))(f:FewB B):FnOk Tryz.prog 108 [wO B] (fun rs=>rs=[LH B.flatten]):=by
 have D:=f.len;have j:B.flatten=c7 B B.length:=by unfold c7;rw[VJ]
 rw[j];refine FnOk.intro Tryz.func108 (by decide) Z Z Z Z ?_;refine k2 ?_;refine A7 (A6 (A9 Z Z) Z (B0 ?_));refine k1 (k2 ?_);refine A7 (A6 (A9 Z Z) Z (B0 ?_));refine k1 (k2 (k2 ?_));refine A7 (A6 (A8 Z Z) Z (A6 (F7 Z (.pure _ _ _ _)) Z (A6 (A8 Z Z) Z (B0 ?_))));refine k1 (k3 ?_);refine D9 (X:=Nat) (fun i=>([(0,E2 (List (Str×Str)) 1 fB B),(3,D1 ((c7 B i).length:Nat)),(9,E2 (List (Str×Str)) 1 fB B),(10,D1 B.length),(11,D1 i)],[])) (fun i=>i<=B.length) (fun i=>B.length-i) 0 (Nat.zero_le _) (Sees.of ⟨B1 rfl,B1 rfl,B1 rfl,B1 rfl,B1 rfl,trivial⟩ trivial) ?_;intro i x;dsimp only at x ⊢;have w:=cH f i;refine k2 ?_;refine A7 (A6 (F1 Z Z) Z (B0 ?_));refine k1 (k2 ?_);refine B5 rfl (fun b=>?_) (fun b=>?_)
 ·have a:i<B.length:=by have c:=A0 b;(try dsimp only at c);omega
  obtain⟨l,d⟩:∃l,l=B[i]:=⟨_,rfl⟩
  have A:B[i]?=some l:=by rw[d];simp[a]
  have z:=f.lens l (by rw[d];exact VE a);have v:((c7 B (i+1)).length:Int)=(c7 B i).length+l.length:=by rw[mS a,VF,d];omega
  refine k5 (k1 (k2 (k3 (k2 ?_))));refine A7 (A6 (B6 Z (.pure _ _ _ _) Z (by omega) A) Z (A6 (C0 Z Z) Z (A6 (A9 Z Z) Z (B0 ?_))));refine k1 (k2 ?_);refine A7 (A6 (A8 Z Z) Z (A6 (A8 Z Z) Z (A6 (F7 Z (.pure _ _ _ _)) Z (A6 (D8 Z Z (by omega)) Z (A6 (A9 Z Z) Z (B0 ?_))))));refine k1 (k2 ?_);refine A7 (A6 (A8 Z Z) Z (A6 (F1 Z Z) Z (B0 ?_)));refine k1 ?_;refine B5 rfl (fun b=>?_) (fun b=>?_)
  ·have c:=A0 b;omega
  refine k5 (k4 (k1 ?_));refine A7 (A6 (D8 Z Z (by omega)) Z (A6 (A8 Z Z) Z (B0 ?_)));refine k1 ?_;refine⟨i+1,by omega,by omega,?_⟩;rw[v];exact (Sees.of ⟨B1 rfl,B1 rfl,B1 rfl,B1 rfl,B1 rfl,trivial⟩ trivial)
 have y:i=B.length:=by have c:=A1 b;(try dsimp only at c);omega
 rw[y];have C:=cH f B.length;refine k6 (k2 ?_);refine A7 (A6 (A8 Z Z) Z (bF (vQ (c7 B B.length).length (by omega)) Z Z Z Z ?_));rintro _ _ ⟨rfl,rfl⟩;refine⟨rfl,?_⟩;refine A6 (A9 Z Z) Z (B0 ?_);refine k1 (k2 (k2 ?_));refine A7 (A6 (A8 Z Z) Z (A6 (F7 Z (.pure _ _ _ _)) Z (A6 (A8 Z Z) Z (B0 ?_))));refine k1 (k3 ?_);refine D9 (X:=Nat) (fun i=>([(6,.s (.one (.mut 803))),(25,E2 (List (Str×Str)) 1 fB B),(26,D1 B.length),(27,D1 i)],[(803,EN (c7 B i))])) (fun i=>i<=B.length) (fun i=>B.length-i) 0 (Nat.zero_le _) (Sees.of ⟨B1 rfl,B1 rfl,B1 rfl,B1 rfl,trivial⟩ ⟨rfl,trivial⟩) ?_;intro i x;dsimp only at x ⊢;have w:=cH f i;refine k2 ?_;refine A7 (A6 (F1 Z Z) Z (B0 ?_));refine k1 (k2 ?_);refine B5 rfl (fun b=>?_) (fun b=>?_)
 ·have a:i<B.length:=by have c:=A0 b;(try dsimp only at c);omega
  obtain⟨l,d⟩:∃l,l=B[i]:=⟨_,rfl⟩
  have A:B[i]?=some l:=by rw[d];simp[a]
  have z:=f.lens l (by rw[d];exact VE a);have v:=mS a;rw[<-d]at v;refine k5 (k1 (k2 (k3 (k2 ?_))));refine A7 (A6 (B6 Z (.pure _ _ _ _) Z (by omega) A) Z (A6 (C0 Z Z) Z (A6 (A9 Z Z) Z (B0 ?_))));refine k1 ?_;refine A7 (A6 (A8 Z Z) Z (A6 (A8 Z Z) Z (D3 (T9 Z Z Z (.pure _ _ _ _) (by omega) Z) Z (A6 (A9 Z Z) Z (B0 ?_)))));refine k4 (k1 ?_);refine A7 (A6 (D8 Z Z (by omega)) Z (A6 (A8 Z Z) Z (B0 ?_)));refine k1 ?_;refine⟨i+1,by omega,by omega,?_⟩;rw[v];exact (Sees.of ⟨B1 rfl,B1 rfl,B1 rfl,B1 rfl,trivial⟩ ⟨rfl,trivial⟩)
 have q:i=B.length:=by have c:=A1 b;(try dsimp only at c);omega
 rw[q];refine k6 (k2 ?_);refine I7 (Sees.freezeG (k:=803) Z Z) ?_;refine A7 (A6 (A8 Z Z) Z (A6 (A9 Z Z) Z (B0 ?_)));refine k1 (I8 ?_);exact B9 (rs:=[LH (c7 B B.length)]) (I5 rfl rfl rfl) rfl
abbrev pZ(l:List Int):Ob:=.arr Int 1 G2 l
abbrev P0(l:List Int):Ob:=.grow 3 Int 1 G2 l
theorem tL{gf:Fr}{ob:Obs}(a d:List Int)(c:Nat)(C:c<a.length)(_hl:a.length<=1000000)(D:d.length<=1000000)(y:C5 ob 5=some (.box [.mut 753]))(z:C5 ob 7=some (.box [.mut 754]))(j:C5 ob 753=some (pZ a))(k:C5 ob 754=some (P0 d)) :
  AL.Met Tryz.prog 93 [.one (.p (.v (.int .i64 c))),.one (.ref 5 0),.one (.ref 7 0)] gf ob [754]
   (fun B ob'=>B=[]/\ob'=(5,.box [.mut 753])::(7,.box [.mut 754])::(753,pZ (if I0 a c<0 then a.set c 0 else a))::(754,P0 (if I0 a c<0 then d++[(c:Int)] else d))::Obs.forget 754 ob):=by
 have q:=iT (l:=a) (p:=(c:Int)) (by omega);rw[VC]at q;refine AL.Met.introH Tryz.func93 (by decide) rfl rfl rfl (fun A=>?_);refine I7 (UJ 754 (l:=[(0,D1 c),(1,.s (.one (.ref 5 0))),(2,.s (.one (.ref 7 0)))]) (L:=[(5,_),(7,_),(753,_),(754,_)]) ⟨B1 rfl,B1 rfl,B1 rfl,trivial⟩ A (by repeat (first | exact B7 | refine B8 rfl ?_)) ⟨y,z,j,k,trivial⟩) ?_;refine k2 ?_;refine A7 (A6 (B4 Z Z Z) Z (A6 (A8 Z Z) Z (A6 (E5 Z Z Z (by omega) (by omega)) Z (A6 (L9 Z Z q Z) Z (A6 (F1 Z Z) Z (B0 ?_))))));refine k1 ?_;refine B5 rfl (fun w=>?_) (fun w=>?_)
 ·have g:I0 a c<0:=A0 w;rw[A4 g,A4 g];refine k2 ?_;refine A7 (A6 (B4 Z Z Z) Z (A6 (A8 Z Z) Z (A6 (E5 Z Z Z (by omega) (by omega)) Z (H3 (K9 TySz.out Z Z (by omega) Z Z) (B0 ?_)))));refine k1 ?_;refine A7 (A6 (B4 Z Z Z) Z (A6 (A8 Z Z) Z (A6 (D2 (c:=G2) (ys:=[(c:Int)]) (D6 Z Z Z Z G1) Z Z Z) Z (D3 (T9 Z Z Z (.pure _ _ _ _) (by (simp only[VD,VI];omega)) Z) Z (H3 (D5 TySz.out Z Z Z Z Z Z) (B0 ?_))))));skip;exact R6 (gF rfl) (by repeat (first | exact B7 | refine B8 rfl ?_ | refine V4 _ ?_)) (M3 (L:=[(5,_),(7,_),(753,_),(754,_)]) ⟨rfl,rfl,rfl,rfl,trivial⟩ (by repeat (first | exact J6 | refine N2 rfl ?_ | refine jY _ ?_))) ⟨rfl,rfl⟩
 ·have g:¬I0 a c<0:=A1 w;rw[A5 g,A5 g];refine k5 ?_;exact R6 (gF rfl) (by repeat (first | exact B7 | refine B8 rfl ?_ | refine V4 _ ?_)) (fun _ _ h=>h) ⟨rfl,rfl⟩
def aQ(n i:Nat):List Int:=List.replicate i (-1)++List.replicate (n-i) 0
theorem CL{n i:Nat}(h:i<n):(aQ n i).set i (-1)=aQ n (i+1):=by
 unfold aQ;rw[List.set_append_right _ _ (by simp),VX,WN,show n-i=(n-(i+1))+1 by omega,List.replicate_succ,List.set_cons_zero,List.replicate_succ',VV];rfl
theorem CM{n i:Nat}(h:i<=n):(aQ n i).length=n:=by unfold aQ;simp;omega
theorem DInv.last{g:Graph}{e:List Bool}{st:List Int}{k i:Nat}{l b D:List Int}(h:DInv g e st k i l b D)(m:0<b.length):∃c:Nat,b=b.take (b.length-1)++[(c:Int)]/\c<g.length/\b[b.length-1]?=some (c:Int):=by
 have d:b.length-1<b.length:=by omega
 have n:=h.on b[b.length-1] (List.mem_append_right _ (VE d));have f:b[b.length-1]=(b[b.length-1].toNat:Int):=by omega
 refine⟨b[b.length-1].toNat,?_,by omega,by rw[VA d];exact congrArg some f⟩;have j:b.take (b.length-1+1)=b:=WB (by omega);rw[List.take_add_one,VA d,Option.toList_some]at j;rw[<-f];exact j.symm
theorem vR(g:Graph)(s:List Int)(G:FewG g)(hr:related g=true)(hs:∀f∈s,0<=f/\f<g.length)(au:s.length<=1048576) :
  AL.Met Tryz.prog 44 [.one (.p (.list Commit 3 E7 g)),.one (.p (.list Int 1 G2 s))] [] [] [] (fun rs ob'=>∃h,rs=[.one (.mut 753)]/\ob'=[(753,pZ h)]/\h.length=g.length/\∀p,p<g.length->I0 h p=if E9 (F6 g s) p=true then (mE g (F6 g s) [] p:Int) else -1):=by
 have hg:=G.len;have af:=u0 hr hs;have U:=cY hr s hs;obtain⟨v,P⟩:∃v,v=F6 g s:=⟨_,rfl⟩
 have W:=@DInv.fin g s;rw[<-P]at af U;refine AL.Met.intro Tryz.func44 (by decide) Z Z Z ?_;refine k2 ?_;refine A7 (A6 (A9 Z Z) Z (B0 ?_));refine k1 (k2 ?_);refine A7 (A6 (A8 Z Z) Z (A6 (F7 Z (.pure _ _ _ _)) Z (D3 (fG 753 Int G2 0 Z Z (by omega) (by omega) (fun _=>by first | exact⟨⟨rfl,rfl⟩,trivial⟩ | exact⟨J2 _ _ _,trivial⟩ | exact⟨J2 _ _ _,⟨rfl,rfl⟩,J2 _ _ _,trivial⟩ | exact⟨⟨rfl,rfl⟩,⟨rfl,rfl⟩,trivial⟩) (by first | rfl | (simp[H4,M1,Ob.free,SV.free,S1.free,TC.free]<;>rfl))) Z ?_)));refine D3 (L4 5 Z) Z (H3 (D5 TySz.out Z Z Z Z Z Z) (B0 ?_));refine k1 (k2 (k2 ?_));refine A7 (A6 (B4 Z Z Z) Z (A6 (lI Z Z) Z (A6 (A8 Z Z) Z (B0 ?_))));refine k1 (k3 ?_);rw[VC];refine D9 (X:=Nat) (fun i=>([(0,E2 Commit 3 E7 g),(1,E2 Int 1 G2 s),(5,.s (.one (.ref 5 0))),(18,D1 g.length),(19,D1 i)],[(5,.box [.mut 753]),(753,pZ (aQ g.length i))])) (fun i=>i<=g.length) (fun i=>g.length-i) 0 (Nat.zero_le _) (by rw[show aQ g.length 0=List.replicate g.length 0 by unfold aQ;simp];exact (Sees.of ⟨B1 rfl,B1 rfl,B1 rfl,UA Z (by first | (simp;done) | (simp;omega)),B1 rfl,trivial⟩ ⟨rfl,rfl,trivial⟩)) ?_;intro i hi;dsimp only at hi ⊢;have ab:=CM hi;refine k2 ?_;refine A7 (A6 (F1 Z Z) Z (B0 ?_));refine k1 (k2 ?_);refine B5 rfl (fun C=>?_) (fun C=>?_)
 ·have B:i<g.length:=by have w:=A0 C;(try dsimp only at w);omega
  have am:=CL B;refine k5 (k1 (k2 (k3 (k2 ?_))));refine A7 (A6 (A8 Z Z) Z (A6 (A9 Z Z) Z (B0 ?_)));refine k1 ?_;refine A7 (A6 (B4 Z Z Z) Z (A6 (A8 Z Z) Z (A6 (E5 Z Z Z (by omega) (by (rw[ab];omega))) Z ?_)));refine H3 (K9 TySz.out Z Z (by (rw[ab];omega)) Z Z) ?_;refine B0 ?_;refine k4 (k1 ?_);refine A7 (A6 (D8 Z Z (by omega)) Z (A6 (A8 Z Z) Z (B0 ?_)));refine k1 ?_;refine⟨i+1,by omega,by omega,?_⟩;rw[VC,am];exact (Sees.of ⟨B1 rfl,B1 rfl,B1 rfl,B1 rfl,B1 rfl,trivial⟩ ⟨rfl,rfl,trivial⟩)
 have ah:i=g.length:=by have w:=A1 C;(try dsimp only at w);omega
 rw[ah,show aQ g.length g.length=List.replicate g.length (-1) by unfold aQ;simp];have ag:=DInv.start g v;refine k6 (k2 ?_);refine A7 (D3 (L4 7 Z) Z (B0 ?_));refine k1 (k2 ?_);refine I7 (UP 754 Int 1 G2 3 (kb:=7) (o:=0) Z Z Z) ?_;refine A7 (A6 (oX Z Z) Z (A6 (A9 Z Z) Z (B0 ?_)));refine k1 (k2 (k2 ?_));refine A7 (A6 (A8 Z Z) Z (A6 (F7 Z (.pure _ _ _ _)) Z (A6 (A8 Z Z) Z (B0 ?_))));refine k1 (k3 ?_);refine D9 (X:=Nat×List Int×List Int) (fun x=>([(0,E2 Commit 3 E7 g),(5,.s (.one (.ref 5 0))),(7,.s (.one (.ref 7 0))),(8,.s (.one (.clo 93 [] [(5,0),(7,0)]))),(27,E2 Int 1 G2 s),(28,D1 s.length),(29,D1 x.1)],[(5,.box [.mut 753]),(7,.box [.mut 754]),(753,pZ x.2.1),(754,P0 x.2.2)])) (fun x=>x.1<=s.length/\DInv g v (s.take x.1) 0 0 x.2.1 x.2.2 []) (fun x=>s.length-x.1) (0,List.replicate g.length (-1),[]) ⟨Nat.zero_le _,ag⟩ (Sees.of ⟨B1 rfl,B1 rfl,B1 rfl,B1 rfl,B1 rfl,B1 rfl,B1 rfl,trivial⟩ ⟨rfl,rfl,rfl,rfl,trivial⟩) ?_;rintro⟨j,h,d⟩ ⟨hj,q⟩;dsimp only at hj q ⊢;have L:=q.le;have F:=q.len;rw[VI,Nat.zero_add]at L;refine k2 ?_;refine A7 (A6 (F1 Z Z) Z (B0 ?_));refine k1 (k2 ?_);refine B5 rfl (fun C=>?_) (fun C=>?_)
 ·have B:j<s.length:=by have w:=A0 C;(try dsimp only at w);omega
  have av:=hs _ (VE B);obtain⟨c,hc⟩:∃c:Nat,s[j]=(c:Int):=⟨s[j].toNat,by omega⟩
  have hv:s[j]?=some (c:Int):=by rw[VA B,hc]
  have E:c<g.length:=by omega
  have ak:E9 v c=true:=(af c).2 ⟨c,by rw[<-hc];exact VE B,.inl rfl⟩
  obtain⟨K,_⟩:=q.reach (Nat.le_refl _) E ak (s.take (j+1)) (fun f G=>by
   rw[O4 B]at G;rcases G with G | G
   ·exact .inl G
   ·right;rw[G,hc])
  refine k5 (k1 (k2 (k3 (k2 ?_))));refine A7 (A6 (B6 Z (.pure _ _ _ _) Z (by omega) hv) Z (A6 (C0 Z Z) Z (A6 (A9 Z Z) Z (B0 ?_))));refine k1 ?_;refine A7 (A6 (A8 Z Z) Z (A6 (A8 Z Z) Z (BH (tL h d c (by omega) (by omega) (by omega) Z Z Z Z) Z Z Z Z ?_)));rintro _ _ ⟨rfl,rfl⟩;refine B0 ?_;refine k4 (k1 ?_);refine A7 (A6 (D8 Z Z (by omega)) Z (A6 (A8 Z Z) Z (B0 ?_)));refine k1 ?_;exact⟨(j+1,if I0 h c<0 then h.set c 0 else h,if I0 h c<0 then d++[(c:Int)] else d),⟨B,K⟩,by dsimp only;omega,(Sees.of ⟨B1 rfl,B1 rfl,B1 rfl,B1 rfl,B1 rfl,B1 rfl,B1 rfl,trivial⟩ ⟨rfl,rfl,rfl,rfl,trivial⟩)⟩
 have ai:j=s.length:=by have w:=A1 C;(try dsimp only at w);omega
 rw[ai,VJ]at q;refine k6 (k2 (k3 ?_));refine D9 (X:=List Int×List Int×List Int) (fun x=>([(0,E2 Commit 3 E7 g),(5,.s (.one (.ref 5 0))),(7,.s (.one (.ref 7 0))),(8,.s (.one (.clo 93 [] [(5,0),(7,0)])))],[(5,.box [.mut 753]),(7,.box [.mut 754]),(753,pZ x.1),(754,P0 x.2.1)])) (fun x=>DInv g v s x.2.2.length 0 x.1 x.2.1 x.2.2) (fun x=>g.length-x.2.2.length) (h,d,[]) q (Sees.of ⟨B1 rfl,B1 rfl,B1 rfl,B1 rfl,trivial⟩ ⟨rfl,rfl,rfl,rfl,trivial⟩) ?_;rintro⟨h,d,D⟩ q;dsimp only at q ⊢;have L:=q.le;have F:=q.len;refine k2 (k2 ?_);refine A7 (A6 (B4 Z Z Z) Z (A6 (P9 Z Z) Z (A6 (N5 Z Z) Z (B0 ?_))));refine k1 ?_;refine B5 rfl (fun C=>?_) (fun C=>?_);rotate_left
 ·have w:d=[]:=by
   have w:=A1 C;exact List.length_eq_zero_iff.1 (by omega)
  rw[w]at q;have hF:=W hr hs (by rw[<-P];exact q);refine k6 (k2 ?_);refine A7 (A6 (B4 Z Z Z) Z (A6 (A9 Z Z) Z (B0 ?_)));refine k1 (I8 ?_);exact G9 (O9 rfl rfl) (by repeat (first | exact B7 | refine B8 rfl ?_ | refine E1 _ ?_)) (ObIn.spec (ob':=[(753,pZ h)]) ⟨rfl,trivial⟩) ⟨h,rfl,rfl,F,hF⟩
 have h0:0<d.length:=by have w:=A0 C;omega
 obtain⟨c,e1,E,S⟩:=DInv.last q h0;obtain⟨z,ae⟩:∃z,z=d.take (d.length-1):=⟨_,rfl⟩
 have S:d[((d.length:Int)-1).toNat]?=some (c:Int):=by rw[show ((d.length:Int)-1).toNat=d.length-1 by omega];exact S
 have V:d.take ((d.length:Int)-1).toNat=z:=by rw[ae];congr 1;omega
 rw[<-ae]at e1;have hP:=(by rw[e1]at q;exact q:DInv g v s D.length 0 h (z++[(c:Int)]) D).pop;obtain⟨A,Q⟩:∃A,A=g[c]:=⟨_,rfl⟩
 have ao:g[((c:Nat):Int).toNat]?=some A:=by rw[Q];simp[E]
 have H:D4 g c=A.Parents:=by rw[U6 E,Q]
 have ar:=G.pars A (by rw[Q];exact VE E);have ac:E9 v c=true:=by
  have:=(hP.on (c:Int) (by simp)).2.2
  rwa[VC]at this
 have Y:(D++[(c:Int)]).getD D.length 0=(c:Int):=by
  rw[VK,VO (Nat.le_refl _),WN];rfl
 refine k5 (k1 (k3 (k2 ?_)));refine A7 (A6 (B4 Z Z Z) Z (A6 (B4 Z Z Z) Z (A6 (P9 Z Z) Z (A6 (O3 Z Z (by omega)) Z (A6 (F0 Z Z Z (by omega) (by omega)) Z (A6 (S3 Z Z S Z) Z (A6 (A9 Z Z) Z (B0 ?_))))))));refine k1 (k2 ?_);refine A7 (A6 (B4 Z Z Z) Z (A6 (B4 Z Z Z) Z (A6 (P9 Z Z) Z (A6 (O3 Z Z (by omega)) Z (D3 (bZ Z Z Z (by omega) (by omega) Z) Z (H3 (D5 TySz.out Z Z Z Z Z Z) (B0 ?_)))))));rw[V];refine k1 (k2 ?_);refine A7 (A6 (A8 Z Z) Z (A6 (A8 Z Z) Z (A6 (B6 Z (.pure _ _ _ _) Z (by omega) ao) Z (A6 (G5 Z) Z (A6 (C0 Z Z) Z (A6 (F7 Z (.pure _ _ _ _)) Z (A6 (A8 Z Z) Z (B0 ?_))))))));refine k1 (k3 ?_);refine D9 (X:=Nat×List Int×List Int) (fun x=>([(0,E2 Commit 3 E7 g),(5,.s (.one (.ref 5 0))),(7,.s (.one (.ref 7 0))),(8,.s (.one (.clo 93 [] [(5,0),(7,0)]))),(55,E2 Int 1 G2 A.Parents),(56,D1 A.Parents.length),(57,D1 x.1)],[(5,.box [.mut 753]),(7,.box [.mut 754]),(753,pZ x.2.1),(754,P0 x.2.2)])) (fun x=>x.1<=A.Parents.length/\DInv g v s D.length x.1 x.2.1 x.2.2 (D++[(c:Int)])) (fun x=>A.Parents.length-x.1) (0,h,z) ⟨Nat.zero_le _,hP⟩ (Sees.of ⟨B1 rfl,B1 rfl,B1 rfl,B1 rfl,B1 rfl,B1 rfl,B1 rfl,trivial⟩ ⟨rfl,rfl,rfl,rfl,trivial⟩) ?_;rintro⟨i,h,d⟩ ⟨hi,q⟩;dsimp only at hi q ⊢;have L:=q.le;have F:=q.len;rw[VF,List.length_singleton]at L;refine k2 ?_;refine A7 (A6 (F1 Z Z) Z (B0 ?_));refine k1 (k2 ?_);refine B5 rfl (fun C=>?_) (fun C=>?_);rotate_left
 ·have w:i=A.Parents.length:=by have w:=A1 C;(try dsimp only at w);omega
  rw[w,<-H]at q;have hN:=q.next (k:=D.length) (by simp) Y;refine k6 (k7 (k7 (k8 Z (k4 (k1 ?_)))));exact⟨(h,d,D++[(c:Int)]),hN,by dsimp only;rw[VF,List.length_singleton];omega,(Sees.of ⟨B1 rfl,B1 rfl,B1 rfl,B1 rfl,trivial⟩ ⟨rfl,rfl,rfl,rfl,trivial⟩)⟩
 have y:i<A.Parents.length:=by have w:=A0 C;(try dsimp only at w);omega
 have aq:=(I3 hr c).1 A.Parents[i] (by rw[H];exact VE y);obtain⟨p,hp⟩:∃p:Nat,A.Parents[i]=(p:Int):=⟨A.Parents[i].toNat,by omega⟩
 have ap:A.Parents[i]?=some (p:Int):=by rw[VA y,hp]
 have al:p<g.length:=by omega
 have ad:E9 v p=true:=by
  have:=U c ac (p:Int) (by rw[H,<-hp];exact VE y)
  rwa[VC]at this
 obtain⟨K,aj⟩:=q.reach (by simp) al ad s (fun f G=>.inl G);obtain⟨q1,q2,T⟩:=K.count hr Y (i:=i) (p:=p) (by rw[H];exact y) (by simp only[H];exact hp) aj;have M:=K.len;refine k5 (k1 (k2 (k3 (k2 ?_))));refine A7 (A6 (B6 Z (.pure _ _ _ _) Z (by omega) ap) Z (A6 (C0 Z Z) Z (A6 (A9 Z Z) Z (B0 ?_))));refine k1 (k2 ?_);refine A7 (A6 (A8 Z Z) Z (A6 (A8 Z Z) Z (BH (tL h d p (by omega) (by omega) (by omega) Z Z Z Z) Z Z Z Z ?_)));rintro _ _ ⟨rfl,rfl⟩;refine B0 ?_;obtain⟨J,O⟩:∃J,J=(if I0 h p<0 then h.set p 0 else h):=⟨_,rfl⟩
 obtain⟨I,R⟩:∃I,I=(if I0 h p<0 then d++[(p:Int)] else d):=⟨_,rfl⟩
 rw[<-O]at q1 q2 M;rw[<-O,<-R]at T ⊢;have an:=iT (l:=J) (p:=(p:Int)) (by omega);refine k1 ?_;refine A7 (A6 (B4 Z Z Z) Z (A6 (A8 Z Z) Z (A6 (E5 Z Z Z (by omega) (by (rw[M];omega))) Z ?_)));refine A6 (L9 Z Z an Z) Z (A6 (D8 Z Z (by (rw[VC];omega))) Z ?_);refine A6 (E5 Z Z Z (by omega) (by (rw[M];omega))) Z ?_;refine H3 (K9 TySz.out Z Z (by (rw[M];omega)) Z Z) ?_;refine B0 ?_;refine k4 (k1 ?_);refine A7 (A6 (D8 Z Z (by omega)) Z (A6 (A8 Z Z) Z (B0 ?_)));refine k1 ?_;exact⟨(i+1,bump J p,I),⟨y,T⟩,by dsimp only;omega,(Sees.of ⟨B1 rfl,B1 rfl,B1 rfl,B1 rfl,B1 rfl,B1 rfl,B1 rfl,trivial⟩ ⟨rfl,rfl,rfl,rfl,trivial⟩)⟩
abbrev cI(g:Graph):Ob:=.box [.mut 741,.fnc 45 [.list Commit 3 E7 g]]
abbrev sI(n:Int):S1:=.one (.p (.v (.int .i64 n)))
abbrev RG(n:Int):S1:=.one (.p (.v (.iface 3 (.int .i64 n))))
abbrev rZ:S1:=.one (.ifc 92 740 0)
theorem EO{g:Graph}{c:Int}(h:0<=c/\c<g.length):∃b,g[c.toNat]?=some b/\p7 g c.toNat=b.Date:=by
 have a:c.toNat<g.length:=by omega
 exact⟨g[c.toNat],by simp[a],by unfold p7;rw[VA a];rfl⟩
theorem GX(g:Graph)(a b:Int)(_hg:g.length<=1048576)(ha:0<=a/\a<g.length)(hb:0<=b/\b<g.length):FnOk Tryz.prog 45 [F4 g,E6 a,E6 b] (fun k=>k=[H5 (O5 g a b)]):=by
 obtain⟨x,d,h⟩:=EO ha;obtain⟨y,f,i⟩:=EO hb;unfold O5;rw[h,i];refine FnOk.intro Tryz.func45 (by decide) Z Z Z Z ?_;refine k2 ?_;refine A7 (A6 (A9 Z Z) Z (B0 ?_));refine k1 (k2 (k2 ?_));refine H2 (by kernel_rfl) (by kernel_rfl) (C2 (A8 Z Z) Z Z (C2 (A8 Z Z) Z Z (C2 (B6 Z (.pure _ _ _ _) Z (by omega) d) Z Z (C2 (G5 Z) Z Z (C2 (C0 Z Z) Z Z (C2 (A8 Z Z) Z Z (C2 (A8 Z Z) Z Z (C2 (B6 Z (.pure _ _ _ _) Z (by omega) f) Z Z (C2 (G5 Z) Z Z (C2 (C0 Z Z) Z Z (C2 (P5 Z Z) Z Z (i7 ?_))))))))))));refine k1 ?_;refine B5 rfl (fun c=>?_) (fun c=>?_)
 ·have j:x.Date≠y.Date:=A0 c;refine k2 ?_;refine H2 (by kernel_rfl) (by kernel_rfl) (C2 (A8 Z Z) Z Z (C2 (A8 Z Z) Z Z (C2 (B6 Z (.pure _ _ _ _) Z (by omega) d) Z Z (C2 (G5 Z) Z Z (C2 (C0 Z Z) Z Z (C2 (A8 Z Z) Z Z (C2 (A8 Z Z) Z Z (C2 (B6 Z (.pure _ _ _ _) Z (by omega) f) Z Z (C2 (G5 Z) Z Z (C2 (C0 Z Z) Z Z (C2 (N5 Z Z) Z Z (C2 (A9 Z Z) Z Z (i7 ?_)))))))))))));refine k1 (I8 (M6 ?_));refine B9 (I5 rfl rfl rfl) (congrArg (fun b=>[H5 b]) (decide_eq_decide.2 ?_));omega
 ·have j:¬x.Date≠y.Date:=A1 c;refine k5 (k1 (k2 ?_));refine A7 (A6 (A8 Z Z) Z (A6 (A8 Z Z) Z (A6 (F1 Z Z) Z (A6 (A9 Z Z) Z (B0 ?_)))));refine k1 (I8 ?_);refine B9 (I5 rfl rfl rfl) (congrArg (fun b=>[H5 b]) (decide_eq_decide.2 ?_));omega
theorem qA{gf:Fr}{ob:Obs}(g:Graph)(l:List Int)(a:C5 ob 740=some (cI g))(b:C5 ob 741=some (P0 l)) :
  AL.Met Tryz.prog 47 [.one (.ref 740 0)] gf ob [] (fun rs ob'=>rs=[sI l.length]/\ob'=ob):=by
 refine AL.Met.intro Tryz.func47 (by decide) Z Z Z ?_;refine k2 ?_;refine A7 (A6 (A9 Z Z) Z (B0 ?_));refine k1 (k2 ?_);refine A7 (A6 (A8 Z Z) Z (A6 (C4 Z) Z (A6 (B2 Z) Z (A6 (B4 Z a Z) Z (A6 (P9 Z b) Z (A6 (A9 Z Z) Z (B0 ?_)))))));refine k1 (I8 ?_);exact G9 (O9 rfl rfl) (by repeat (first | exact B7 | refine B8 rfl ?_ | refine E1 _ ?_)) (fun _ _ h=>h) ⟨rfl,rfl⟩
theorem lS{gf:Fr}{ob:Obs}(g:Graph)(l:List Int)(i j:Nat)(w:g.length<=1048576)(u:∀x∈l,0<=x/\x<(g.length:Int))(d:i<l.length)(k:j<l.length)(m:C5 ob 740=some (cI g))(c:C5 ob 741=some (P0 l)) :
  AL.Met Tryz.prog 370 [.one (.ref 740 0),sI i,sI j] gf ob [] (fun y ob'=>y=[.one (.p (.v (.bool (O5 g (I0 l i) (I0 l j)))))]/\ob'=ob):=by
 have q:l[((i:Nat):Int).toNat]?=some (I0 l i):=by rw[VC,M4 d];simp[d]
 have s:l[((j:Nat):Int).toNat]?=some (I0 l j):=by rw[VC,M4 k];simp[k]
 have hb:=GX g (I0 l i) (I0 l j) w (by rw[M4 d];exact u _ (VE d)) (by rw[M4 k];exact u _ (VE k));refine AL.Met.intro Tryz.func370 (by decide) Z Z Z ?_;refine k2 ?_;refine A7 (A6 (A9 Z Z) Z (B0 ?_));refine k1 (k2 ?_);refine H2 (by kernel_rfl) (by kernel_rfl) (C2 (A8 Z Z) Z Z (C2 (C4 Z) Z Z (C2 (B2 Z) Z Z (C2 (B4 Z m Z) Z Z (C2 (A8 Z Z) Z Z (C2 (C4 Z) Z Z (C2 (B2 Z) Z Z (C2 (B4 Z m Z) Z Z (C2 (A8 Z Z) Z Z (C2 (F0 Z c Z (by omega) (by omega)) Z Z (C2 (S3 Z c q Z) Z Z (C2 (A8 Z Z) Z Z (C2 (C4 Z) Z Z (C2 (B2 Z) Z Z (C2 (B4 Z m Z) Z Z (C2 (A8 Z Z) Z Z (C2 (F0 Z c Z (by omega) (by omega)) Z Z (C2 (S3 Z c s Z) Z Z (C2 (MP (hb) Z Z Z) Z Z (C2 (A9 Z Z) Z Z (i7 ?_)))))))))))))))))))));refine k1 (I8 ?_);exact G9 (O9 rfl rfl) (by repeat (first | exact B7 | refine B8 rfl ?_ | refine E1 _ ?_)) (fun _ _ h=>h) ⟨rfl,rfl⟩
theorem lT{gf:Fr}{ob:Obs}(g:Graph)(l:List Int)(i j:Nat)(x:i<l.length)(q:j<l.length)(y:C5 ob 740=some (cI g))(v:C5 ob 741=some (P0 l)) :
  AL.Met Tryz.prog 373 [.one (.ref 740 0),sI i,sI j] gf ob [] (fun B ob'=>B=[]/\ob'=(741,P0 (U9 l i j))::ob):=by
 have d:l[((i:Nat):Int).toNat]?=some (I0 l i):=by rw[VC,M4 x];simp[x]
 have m:l[((j:Nat):Int).toNat]?=some (I0 l j):=by rw[VC,M4 q];simp[q]
 obtain⟨a,ha⟩:∃a,a=I0 l i:=⟨_,rfl⟩
 obtain⟨b,hb⟩:∃b,b=I0 l j:=⟨_,rfl⟩
 rw[<-ha]at d;rw[<-hb]at m;have p:(l.set ((i:Nat):Int).toNat b)[((j:Nat):Int).toNat]?=some (I0 (l.set i b) j):=by
  rw[VC,VC];have:j<(l.set i b).length:=by rw[VY];exact q
  rw[M4 this];simp[q]
 have w:(l.set ((i:Nat):Int).toNat b).set ((j:Nat):Int).toNat a=U9 l i j:=by rw[ha,hb];rfl
 have c:C5 ((741,P0 l)::ob) 740=some (cI g):=by rw[C7 (by decide)];exact y
 refine AL.Met.introH Tryz.func373 (by decide) rfl rfl rfl (fun A=>?_);refine I7 (UF (l:=[(0,.s (.one (.ref 740 0))),(1,D1 i),(2,D1 j)]) (ob':=(741,P0 l)::ob) ⟨B1 rfl,B1 rfl,B1 rfl,trivial⟩ A (by repeat (first | exact B7 | refine B8 rfl ?_)) (M3 (L:=[(741,_)]) ⟨v,trivial⟩ J6)) ?_;skip;refine bV [27,25] [[],[25],[27,25]] [(25,([],[])),(27,([],[]))] [(0,[]),(1,[]),(2,[]),(3,[]),(4,[]),(5,[]),(6,[]),(7,[]),(8,[]),(9,[]),(10,[]),(11,[]),(12,[]),(13,[]),(14,[]),(15,[]),(16,[]),(17,[]),(18,[]),(19,[]),(20,[]),(21,[]),(22,[]),(23,[]),(24,[]),(25,[]),(26,[25]),(27,[25])] [(9,[25])] (by kernel_rfl) (by kernel_rfl) (J0 Z Z (by kernel_rfl) Z Z (A8 Z Z) (J0 Z Z (by kernel_rfl) Z Z (C4 Z) (J0 Z Z (by kernel_rfl) Z Z (B2 Z) (J0 Z Z (by kernel_rfl) Z Z (B4 Z c Z) (J0 Z Z (by kernel_rfl) Z Z (A8 Z Z) (J0 Z Z (by kernel_rfl) Z Z (A8 Z Z) (J0 Z Z (by kernel_rfl) Z Z (C4 Z) (J0 Z Z (by kernel_rfl) Z Z (B2 Z) (J0 Z Z (by kernel_rfl) Z Z (B4 Z c Z) (J0 Z Z (by kernel_rfl) Z Z (A8 Z Z) (J0 Z Z (by kernel_rfl) Z Z (A8 Z Z) (J0 Z Z (by kernel_rfl) Z Z (C4 Z) (J0 Z Z (by kernel_rfl) Z Z (B2 Z) (J0 Z Z (by kernel_rfl) Z Z (B4 Z c Z) (J0 Z Z (by kernel_rfl) Z Z (A8 Z Z) (J0 Z Z (by kernel_rfl) Z Z (F0 Z Z Z (by omega) (by omega)) (J0 Z Z (by kernel_rfl) Z Z (S3 Z Z m Z) (J0 Z Z (by kernel_rfl) Z Z (A8 Z Z) (J0 Z Z (by kernel_rfl) Z Z (C4 Z) (J0 Z Z (by kernel_rfl) Z Z (B2 Z) (J0 Z Z (by kernel_rfl) Z Z (B4 Z c Z) (J0 Z Z (by kernel_rfl) Z Z (A8 Z Z) (J0 Z Z (by kernel_rfl) Z Z (F0 Z Z Z (by omega) (by (first | omega | (rw[VY];omega)))) ?_)))))))))))))))))))))));refine J0 Z Z (by kernel_rfl) Z Z (S3 Z Z d Z) (J0 Z Z (by kernel_rfl) Z Z (F0 Z Z Z (by omega) (by omega)) (sT Z Z (by kernel_rfl) Z Z (xR (fun u k=>Z1 (b) TySz.out (nM k Z) Z d (nM k Z) Z Z Z (fun _ _ _ h=>W8 h) (by intro j v z;rcases j with _ | _ | _ | _ | _ | _ | _ | j<;>first | rfl | omega))) Z ?_));refine J0 Z Z (by kernel_rfl) Z Z (F0 Z Z Z (by omega) (by (rw[VY];omega))) ?_;refine sT Z Z (by kernel_rfl) Z Z (xR (fun u k=>Z1 (a) TySz.out (nM k Z) Z p (nM k Z) Z Z Z (fun _ _ _ h=>W8 h) (by intro j v z;rcases j with _ | _ | _ | _ | _ | _ | _ | j<;>first | rfl | omega))) Z ?_;refine JD (by kernel_rfl) rfl ?_ ?_
 ·refine xQ Z Z (by kernel_rfl) Z Z (A8 Z Z) ?_;exact JE
 rw[w];skip;exact R6 (gF rfl) (by repeat (first | exact B7 | refine tail_drop rfl ?_ | refine B8 rfl ?_)) (M3 (L:=[(741,_)]) ⟨rfl,trivial⟩ (by repeat (first | exact J6 | refine N2 rfl ?_))) ⟨rfl,rfl⟩
theorem GY{gf:Fr}{ob:Obs}(g:Graph)(l:List Int)(c:Int)(k:l.length<=1048576)(d:C5 ob 740=some (cI g))(h:C5 ob 741=some (P0 l)) :
  AL.Met Tryz.prog 372 [.one (.ref 740 0),RG c] gf ob [741] (fun j ob'=>j=[]/\ob'=(740,cI g)::(741,P0 (l++[c]))::Obs.forget 741 ob):=by
 refine AL.Met.introH Tryz.func372 (by decide) rfl rfl rfl (fun i=>?_);refine I7 (UJ 741 (l:=[(0,.s (.one (.ref 740 0))),(1,.s (RG c))]) (L:=[(740,_),(741,_)]) ⟨B1 rfl,B1 rfl,trivial⟩ i (by repeat (first | exact B7 | refine B8 rfl ?_)) ⟨d,h,trivial⟩) ?_;skip;refine bV [11,8] [[],[8],[11,8]] [(8,([741],[8])),(11,([],[]))] [(0,[]),(1,[]),(2,[]),(3,[]),(4,[]),(5,[]),(6,[]),(7,[]),(8,[]),(9,[8]),(10,[8]),(11,[8])] [(0,[8])] (by kernel_rfl) (by kernel_rfl) (J0 Z Z (by kernel_rfl) Z Z (A8 Z Z) (J0 Z Z (by kernel_rfl) Z Z (A8 Z Z) (J0 Z Z (by kernel_rfl) Z Z (C4 Z) (J0 Z Z (by kernel_rfl) Z Z (B2 Z) (J0 Z Z (by kernel_rfl) Z Z (B4 Z Z Z) (J0 Z Z (by kernel_rfl) Z Z (A8 Z Z) (J0 Z Z (by kernel_rfl) Z Z (mO Z Z) (J0 Z Z (by kernel_rfl) Z Z (D2 (c:=G2) (ys:=[c]) (D6 Z Z Z Z G1) Z Z Z) (sT Z Z (by kernel_rfl) Z Z (OZ (fun b a=>T9 (nM a Z) Z (nM a Z) (.pure _ _ _ _) (by (simp only[VD,VI];omega)) Z)) Z (J0 Z Z (by kernel_rfl) Z Z (C4 Z) (J0 Z Z (by kernel_rfl) Z Z (B2 Z) (sT Z Z (by kernel_rfl) Z Z (xR (fun b a=>D5 TySz.out (nM a Z) Z (nM a Z) Z Z Z)) Z ?_))))))))))));refine PB (ks:=[741]) rfl (by kernel_rfl) rfl ?_ ?_
 ·refine xQ Z Z (by kernel_rfl) Z Z (A8 Z Z) ?_;exact JE
 skip;exact R6 (gF rfl) (by repeat (first | exact B7 | refine tail_drop rfl ?_ | refine B8 rfl ?_ | refine V4 _ ?_ | refine E1 _ ?_)) (M3 (L:=[(740,_),(741,_)]) ⟨rfl,rfl,trivial⟩ (by repeat (first | exact J6 | refine N2 rfl ?_ | refine jY _ ?_))) ⟨rfl,rfl⟩
theorem KG{gf:Fr}{ob:Obs}(g:Graph)(l:List Int)(p:l.length<=1048576)(m:0<l.length)(c:C5 ob 740=some (cI g))(d:C5 ob 741=some (P0 l)) :
  AL.Met Tryz.prog 371 [.one (.ref 740 0)] gf ob [741] (fun k ob'=>k=[RG (I0 l (l.length-1))]/\ob'=(740,cI g)::(741,P0 (l.take (l.length-1)))::Obs.forget 741 ob):=by
 have b:l.length-1<l.length:=by omega
 have j:l[((l.length:Int)-1).toNat]?=some (I0 l (l.length-1)):=by rw[show ((l.length:Int)-1).toNat=l.length-1 by omega,M4 b];simp[b]
 have i:l.take ((l.length:Int)-1).toNat=l.take (l.length-1):=by congr 1;omega
 refine AL.Met.introH Tryz.func371 (by decide) rfl rfl rfl (fun h=>?_);refine I7 (UJ 741 (l:=[(0,.s (.one (.ref 740 0)))]) (L:=[(740,_),(741,_)]) ⟨B1 rfl,trivial⟩ h (by repeat (first | exact B7 | refine B8 rfl ?_)) ⟨c,d,trivial⟩) ?_;refine k2 ?_;refine A7 (A6 (A9 Z Z) Z (B0 ?_));refine k1 (k2 ?_);refine A7 (A6 (A8 Z Z) Z (A6 (C4 Z) Z (A6 (B2 Z) Z (A6 (B4 Z Z Z) Z (A6 (P9 Z Z) Z (A6 (O3 Z Z (by omega)) Z (A6 (A9 Z Z) Z (B0 ?_))))))));refine k1 (k2 ?_);refine A7 (A6 (A8 Z Z) Z (A6 (C4 Z) Z (A6 (B2 Z) Z (A6 (B4 Z Z Z) Z (A6 (A8 Z Z) Z (A6 (F0 Z Z Z (by omega) (by omega)) Z (A6 (S3 Z Z j Z) Z (A6 (A9 Z Z) Z (B0 ?_)))))))));refine k1 (k2 ?_);refine A7 (A6 (A8 Z Z) Z (A6 (A8 Z Z) Z (A6 (C4 Z) Z (A6 (B2 Z) Z (A6 (B4 Z Z Z) Z (A6 (A8 Z Z) Z (D3 (bZ Z Z Z (by omega) (by omega) Z) Z (A6 (C4 Z) Z (A6 (B2 Z) Z (H3 (D5 TySz.out Z Z Z Z Z Z) (B0 ?_)))))))))));rw[i];refine k1 (k2 ?_);refine A7 (A6 (A8 Z Z) Z (A6 (iR Z (by kernel_rfl)) Z (A6 (A9 Z Z) Z (B0 ?_))));refine k1 (I8 ?_);exact G9 (O9 rfl rfl) (by repeat (first | exact B7 | refine B8 rfl ?_ | refine V4 _ ?_ | refine E1 _ ?_)) (M3 (L:=[(740,_),(741,_)]) ⟨rfl,rfl,trivial⟩ (by repeat (first | exact J6 | refine N2 rfl ?_ | refine jY _ ?_))) ⟨rfl,rfl⟩
theorem PK(j:Nat)(a:j<=1048576):IntKind.i64.wrap (((j:Int)-1).tdiv 2)=(((j-1) / 2:Nat):Int):=by
 have h:((j:Int)-1).tdiv 2=(((j-1) / 2:Nat):Int):=by
  cases j with
  | zero=>rfl
  | succ j =>
   rw[show (((j+1:Nat):Int)-1)=(j:Int) by omega,Int.tdiv_eq_ediv_of_nonneg (by omega)];omega
 rw[h];exact IntWalk.i64_in _ ⟨by omega,by omega⟩
theorem qB{l:List Int}{n:Int}{i j:Nat}(a:i<l.length)(b:j<l.length)(h:∀x∈l,0<=x/\x<n):∀x∈U9 l i j,0<=x/\x<n:=fun x c=>h x ((uF a b x).1 c)
theorem ND{gf:Fr}{ob:Obs}(g:Graph)(l:List Int)(j:Nat)(F:g.length<=1048576)(K:l.length<=1048576)(H:∀x∈l,0<=x/\x<(g.length:Int))(G:j<l.length)(D:C5 ob 740=some (cI g))(E:C5 ob 741=some (P0 l)) :
  AL.Met Tryz.prog 94 [rZ,sI j] gf ob [] (fun I ob'=>I=[]/\ob'=(741,P0 (MC (O5 g) (j+1) l j))::ob):=by
 have q:∀o,C5 ((741,o)::ob) 740=some (cI g):=fun o=>by rw[C7 (by decide)];exact D
 refine AL.Met.introH Tryz.func94 (by decide) rfl rfl rfl (fun z=>?_);refine k3 ?_;obtain⟨R,A⟩:∃R,R=MC (O5 g) (j+1) l j:=⟨_,rfl⟩
 rw[<-A];refine D9 (X:=Nat×List Int×Nat) (fun x=>([(0,.s rZ),(1,D1 x.2.2)]++gf,(741,P0 x.2.1)::ob)) (fun x=>MC (O5 g) x.1 x.2.1 x.2.2=R/\x.2.2<x.1/\x.2.1.length=l.length/\x.2.2<l.length/\∀y∈x.2.1,0<=y/\y<(g.length:Int)) (fun x=>x.1) (j+1,l,j) ⟨A.symm,by dsimp only;omega,rfl,G,H⟩ ?_ ?_
 ·exact UF ⟨B1 rfl,B1 rfl,trivial⟩ z (by repeat (first | exact B7 | refine B8 rfl ?_)) (M3 (L:=[(741,_)]) ⟨E,trivial⟩ J6)
 rintro⟨f,d,k⟩ ⟨c,v,t,hkl,m⟩;dsimp only at c v t hkl m ⊢;obtain⟨f,rfl⟩:∃C,f=C+1:=⟨f-1,by omega⟩
 rw[MC]at c;have u:=PK k (by omega);have e:(k-1) / 2<d.length:=by omega
 refine k3 (k2 ?_);refine A7 (A6 (A8 Z Z) Z (A6 (O3 Z Z (by omega)) Z (A6 (ME Z Z (by decide)) Z (A6 (A9 Z Z) Z (B0 ?_)))));rw[u];refine k1 (k2 (k2 ?_));by_cases B:(k-1) / 2=k
 ·rw[A4 (.inl B)]at c;have b:decide ((((k-1) / 2:Nat):Int)=(k:Int))=true:=A2 (by omega);refine A7 (A6 (A8 Z Z) Z (A6 (A8 Z Z) Z (A6 (J1 Z Z) Z (A6 (A8 Z Z) Z (aH Z Z Z (by rw[b];decide) Z ?_)))));refine aH Z Z Z (by rw[b];decide) Z ?_;refine aH Z Z Z (by rw[b];decide) Z ?_;refine aH Z Z Z (by rw[b];decide) Z ?_;refine aH Z Z Z (by rw[b];decide) Z ?_;refine A6 (oT Z (b) Z) Z (B0 ?_);refine k1 ?_;refine B5 rfl (fun p=>?_) (fun p=>?_)
  ·refine k6 (k7 (k9 Z (k7 (k8 Z ?_))));rw[<-c];exact R6 (gF rfl) (by repeat (first | exact B7 | refine B8 rfl ?_ | refine E1 _ ?_)) (fun _ _ h=>h) ⟨rfl,rfl⟩
  ·cases p
 ·have b:decide ((((k-1) / 2:Nat):Int)=(k:Int))=false:=A3 (by omega);refine A7 (A6 (A8 Z Z) Z (A6 (A8 Z Z) Z (A6 (J1 Z Z) Z (A6 (A8 Z Z) Z (gB Z Z Z b (A6 (A8 Z Z) Z (gB Z Z Z b (A6 (A8 Z Z) Z (gB Z Z Z b (A6 (A8 Z Z) Z (gB Z Z Z b (aL (fun a J w=>by kernel_rfl) (lS g d k ((k-1) / 2) F m (by omega) e (q _) Z) Z Z Z Z ?_))))))))))));rintro _ _ ⟨rfl,rfl⟩;refine gB Z Z Z b (A6 (Y7 Z) Z (A6 (xK Z (b) Z) Z (B0 ?_)));refine k1 ?_;refine B5 rfl (fun p=>?_) (fun p=>?_)
  ·have hb:O5 g (I0 d k) (I0 d ((k-1) / 2))=false:=by simpa using p
   rw[A4 (.inr hb)]at c;refine k6 (k7 (k9 Z (k7 (k8 Z ?_))));rw[<-c];exact R6 (gF rfl) (by repeat (first | exact B7 | refine B8 rfl ?_ | refine E1 _ ?_)) (fun _ _ h=>h) ⟨rfl,rfl⟩
  ·have hb:O5 g (I0 d k) (I0 d ((k-1) / 2))=true:=by simpa using p
   rw[A5 (by rw[hb];simp[B])]at c;refine k5 (k1 (k2 ?_));refine A7 (A6 (A8 Z Z) Z (A6 (A8 Z Z) Z (A6 (A8 Z Z) Z (aL (fun a J w=>by kernel_rfl) (lT g d ((k-1) / 2) k e (by omega) (q _) Z) Z Z Z Z ?_))));rintro _ _ ⟨rfl,rfl⟩;refine B0 ?_;refine k1 ?_;refine A7 (A6 (A8 Z Z) Z (A6 (A9 Z Z) Z (B0 ?_)));refine k4 (k1 ?_);refine⟨(f,U9 d ((k-1) / 2) k,(k-1) / 2),⟨c,by dsimp only;omega,by dsimp only;rw[K5];exact t,by dsimp only;omega,qB e (by omega) m⟩,by dsimp only;omega,?_⟩;exact UF ⟨B1 rfl,B1 rfl,trivial⟩ z (by repeat (first | exact B7 | refine B8 rfl ?_)) (M3 (L:=[(741,_)]) ⟨rfl,trivial⟩ (by repeat (first | exact J6 | refine N2 rfl ?_)))
theorem GZ{gf:Fr}{ob:Obs}(g:Graph)(l:List Int)(n:Nat)(D:g.length<=1048576)(hl:l.length<=1048576)(W:∀x∈l,0<=x/\x<(g.length:Int))(hn:n<=l.length)(S:C5 ob 740=some (cI g))(T:C5 ob 741=some (P0 l)) :
  AL.Met Tryz.prog 95 [rZ,sI 0,sI n] gf ob [] (fun Y ob'=>∃b,Y=[.one (.p (.v (.bool b)))]/\ob'=(741,P0 (x8 (O5 g) n (n+1) l 0))::ob):=by
 have u:∀o,C5 ((741,o)::ob) 740=some (cI g):=fun o=>by rw[C7 (by decide)];exact S
 refine AL.Met.introH Tryz.func95 (by decide) rfl rfl rfl (fun C=>?_);refine k2 ?_;refine A7 (A6 (A9 Z Z) Z (B0 ?_));refine k1 (k2 ?_);refine A7 (A6 (A8 Z Z) Z (A6 (A9 Z Z) Z (B0 ?_)));refine k1 (k2 (k3 ?_));obtain⟨R,K⟩:∃R,R=x8 (O5 g) n (n+1) l 0:=⟨_,rfl⟩
 rw[<-K];refine D9 (X:=Nat×List Int×Nat) (fun x=>([(0,.s rZ),(1,D1 0),(2,D1 n),(7,D1 x.2.2)]++gf,(741,P0 x.2.1)::ob)) (fun x=>x8 (O5 g) n x.1 x.2.1 x.2.2=R/\n<x.1+x.2.2/\x.2.1.length=l.length/\x.2.2<=l.length/\∀y∈x.2.1,0<=y/\y<(g.length:Int)) (fun x=>x.1) (n+1,l,0) ⟨K.symm,by dsimp only;omega,rfl,Nat.zero_le _,W⟩ ?_ ?_
 ·exact UF ⟨B1 rfl,B1 rfl,B1 rfl,B1 rfl,trivial⟩ C (by repeat (first | exact B7 | refine B8 rfl ?_)) (M3 (L:=[(741,_)]) ⟨T,trivial⟩ J6)
 rintro⟨f,c,i⟩ ⟨q,I,E,G,r⟩;dsimp only at q I E G r ⊢;have A:n<=2*i+1->c=R:=fun h=>by
  cases f with
  | zero=>exact q
  | succ f=>rw[x8,A4 h]at q;exact q
 refine k3 (k2 ?_);refine A7 (A6 (A8 Z Z) Z (A6 (sD Z Z (by omega)) Z (A6 (D8 Z Z (by omega)) Z (A6 (A9 Z Z) Z (B0 ?_)))));refine k1 (k2 (k2 ?_));refine A7 (A6 (A8 Z Z) Z (A6 (A8 Z Z) Z (A6 (jL Z Z) Z (A6 (A8 Z Z) Z (B3 Z Z Z Z (fun D=>by rw[D];exact A8 Z Z) ?_)))));refine B3 Z Z Z Z (fun D=>by rw[D];exact F1 Z Z) ?_;refine A6 (C3 Z (fun h=>by first | rfl | (rw[h];rfl)) (fun h=>by first | rfl | (rw[h];rfl))) Z ?_;refine B0 ?_;refine k1 ?_;refine B5 rfl (fun m=>?_) (fun m=>?_)
 ·have U:=A0 (or_pick.symm.trans m);rw[A (by omega)];refine k6 (k2 ?_);refine A7 (A6 (A8 Z Z) Z (A6 (A8 Z Z) Z (A6 (N5 Z Z) Z (A6 (A9 Z Z) Z (B0 ?_)))));refine k1 (I8 ?_);exact G9 (O9 rfl rfl) (by repeat (first | exact B7 | refine B8 rfl ?_ | refine E1 _ ?_)) (fun _ _ h=>h) ⟨_,rfl,rfl⟩
 have U:=A1 (or_pick.symm.trans m);have H:2*i+1<n:=by omega
 obtain⟨f,rfl⟩:∃Q,f=Q+1:=⟨f-1,by omega⟩
 rw[x8,A5 (by omega)]at q;obtain⟨N,O,P⟩:=FE (bf:=O5 g) (l:=c) H;have t:nS (O5 g) n c i=if 2*i+2<n/\O5 g (I0 c (2*i+2)) (I0 c (2*i+1))=true then 2*i+2 else 2*i+1:=rfl
 obtain⟨j,V⟩:∃j,j=nS (O5 g) n c i:=⟨_,rfl⟩
 rw[<-V]at q N O P t;rw[show 2*(i:Int)+1=((2*i+1:Nat):Int) by omega];refine k5 (k1 (k2 ?_));refine A7 (A6 (A8 Z Z) Z (A6 (A9 Z Z) Z (B0 ?_)));refine k1 (k2 (k2 ?_));refine A7 (A6 (A8 Z Z) Z (A6 (D8 Z Z (by omega)) Z (A6 (A9 Z Z) Z (B0 ?_))));rw[show ((2*i+1:Nat):Int)+1=((2*i+2:Nat):Int) by omega];refine k1 (k2 ?_);obtain⟨B,F⟩:∃B,B=(decide (2*i+2<n)&&O5 g (I0 c (2*i+2)) (I0 c (2*i+1))):=⟨_,rfl⟩
 have d:j=if B=true then 2*i+2 else 2*i+1:=by rw[t,F];simp only[VB,decide_eq_true_eq]
 refine bY ([(0,.s rZ),(1,D1 0),(2,D1 n),(7,D1 i),(9,D1 ((2*i+1:Nat):Int)),(10,D1 ((2*i+2:Nat):Int)),(33,O8 B)]++gf) ((741,P0 c)::ob) ?_ ?_
 ·by_cases J:2*i+2<n
  ·have k:decide (((2*i+2:Nat):Int)<(n:Int))=true:=A2 (by omega);have z:B=O5 g (I0 c (2*i+2)) (I0 c (2*i+1)):=by rw[F,A2 J,Bool.true_and]
   rw[z];refine A7 (A6 (A8 Z Z) Z (A6 (A8 Z Z) Z (A6 (F1 Z Z) Z (A6 (A8 Z Z) Z (gB Z Z Z k (A6 (A8 Z Z) Z (gB Z Z Z k (A6 (A8 Z Z) Z (gB Z Z Z k (A6 (A8 Z Z) Z (gB Z Z Z k (aL (fun a M w=>by kernel_rfl) (lS g c (2*i+2) (2*i+1) D r (by omega) (by omega) (u _) Z) Z Z Z Z ?_))))))))))));rintro _ _ ⟨rfl,rfl⟩;refine A6 (oT Z (k) Z) Z (B0 ?_);refine k1 ?_;exact UF ⟨B1 rfl,B1 rfl,B1 rfl,B1 rfl,B1 rfl,B1 rfl,B1 rfl,trivial⟩ C (by repeat (first | exact B7 | refine B8 rfl ?_)) (fun _ _ h=>h)
  ·have k:decide (((2*i+2:Nat):Int)<(n:Int))=false:=A3 (by omega);have z:B=false:=by rw[F,A3 J,Bool.false_and]
   rw[z];refine A7 (A6 (A8 Z Z) Z (A6 (A8 Z Z) Z (A6 (F1 Z Z) Z (A6 (A8 Z Z) Z (aH Z Z Z (by rw[k];decide) Z ?_)))));refine aH Z Z Z (by rw[k];decide) Z ?_;refine aH Z Z Z (by rw[k];decide) Z ?_;refine aH Z Z Z (by rw[k];decide) Z ?_;refine A6 (xK Z (k) Z) Z (B0 ?_);refine k1 ?_;exact UF ⟨B1 rfl,B1 rfl,B1 rfl,B1 rfl,B1 rfl,B1 rfl,B1 rfl,trivial⟩ C (by repeat (first | exact B7 | refine B8 rfl ?_)) (fun _ _ h=>h)
 skip;refine bY ([(0,.s rZ),(1,D1 0),(2,D1 n),(7,D1 i),(9,D1 j)]++gf) ((741,P0 c)::ob) ?_ ?_
 ·refine B5 rfl (fun m=>?_) (fun m=>?_)
  ·rw[A4 m]at d;skip;refine A7 (A6 (A8 Z Z) Z (A6 (A9 Z Z) Z (B0 ?_)));refine k1 ?_;rw[d];exact UF ⟨B1 rfl,B1 rfl,B1 rfl,B1 rfl,B1 rfl,trivial⟩ C (by repeat (first | exact B7 | refine B8 rfl ?_)) (fun _ _ h=>h)
  ·rw[A5 (by rw[m];decide)]at d;refine k5 (k1 ?_);rw[d];exact UF ⟨B1 rfl,B1 rfl,B1 rfl,B1 rfl,B1 rfl,trivial⟩ C (by repeat (first | exact B7 | refine B8 rfl ?_)) (fun _ _ h=>h)
 refine k2 (k2 ?_);refine A7 (A6 (A8 Z Z) Z (A6 (A8 Z Z) Z (A6 (A8 Z Z) Z (aL (fun a M w=>by kernel_rfl) (lS g c j i D r (by omega) (by omega) (u _) Z) Z Z Z Z ?_))));rintro _ _ ⟨rfl,rfl⟩;refine A6 (Y7 Z) Z (B0 ?_);refine k1 ?_;refine B5 rfl (fun m=>?_) (fun m=>?_)
 ·have hb:O5 g (I0 c j) (I0 c i)=false:=by simpa using m
  rw[A4 hb]at q;rw[<-q];refine k6 (k2 ?_);refine A7 (A6 (A8 Z Z) Z (A6 (A8 Z Z) Z (A6 (N5 Z Z) Z (A6 (A9 Z Z) Z (B0 ?_)))));refine k1 (I8 ?_);exact G9 (O9 rfl rfl) (by repeat (first | exact B7 | refine B8 rfl ?_ | refine E1 _ ?_)) (fun _ _ h=>h) ⟨_,rfl,rfl⟩
 ·have hb:O5 g (I0 c j) (I0 c i)=true:=by simpa using m
  rw[A5 (by rw[hb];decide)]at q;refine k5 (k1 (k2 ?_));refine A7 (A6 (A8 Z Z) Z (A6 (A8 Z Z) Z (A6 (A8 Z Z) Z (aL (fun a M w=>by kernel_rfl) (lT g c i j (by omega) (by omega) (u _) Z) Z Z Z Z ?_))));rintro _ _ ⟨rfl,rfl⟩;refine B0 ?_;refine k1 ?_;refine A7 (A6 (A8 Z Z) Z (A6 (A9 Z Z) Z (B0 ?_)));refine k4 (k1 ?_);refine⟨(f,U9 c i j,j),⟨q,by dsimp only;omega,by dsimp only;rw[K5];exact E,by dsimp only;omega,qB (by omega) (by omega) r⟩,by dsimp only;omega,?_⟩;exact UF ⟨B1 rfl,B1 rfl,B1 rfl,B1 rfl,trivial⟩ C (by repeat (first | exact B7 | refine B8 rfl ?_)) (M3 (L:=[(741,_)]) ⟨rfl,trivial⟩ (by repeat (first | exact J6 | refine N2 rfl ?_)))
theorem tM{gf:Fr}{ob:Obs}(g:Graph)(l:List Int)(c:Int)(r:g.length<=1000)(u:l.length<=1000)(p:∀x∈l,0<=x/\x<(g.length:Int))(m:0<=c/\c<g.length)(i:C5 ob 740=some (cI g))(j:C5 ob 741=some (P0 l)) :
  AL.Met Tryz.prog 46 [rZ,RG c] gf ob [741] (fun rs ob'=>rs=[]/\ob'=(740,cI g)::(741,P0 (lC (O5 g) l c))::Obs.forget 741 ob):=by
 have f:∀x∈l++[c],0<=x/\x<(g.length:Int):=fun x d=>by
  rcases VG.1 d with d | d
  ·exact p x d
  ·rw[List.mem_singleton.1 d];exact m
 have b:(l++[c]).length=l.length+1:=by simp
 have o:MC (O5 g) (l.length+1) (l++[c]) l.length=lC (O5 g) l c:=rfl;refine AL.Met.introH Tryz.func46 (by decide) rfl rfl rfl (fun k=>?_);refine I7 (UJ 741 (l:=[(0,.s rZ),(1,.s (RG c))]) (L:=[(740,_),(741,_)]) ⟨B1 rfl,B1 rfl,trivial⟩ k (by repeat (first | exact B7 | refine B8 rfl ?_)) ⟨i,j,trivial⟩) ?_;refine k2 ?_;refine A7 (A6 (A8 Z Z) Z (A6 (A8 Z Z) Z (aL (fun a q w=>by kernel_rfl) (GY g l c (by omega) Z Z) Z Z Z Z ?_)));rintro _ _ ⟨rfl,rfl⟩;refine B0 ?_;refine k1 ?_;refine A7 (A6 (A8 Z Z) Z (A6 (A8 Z Z) Z (aL (fun a q w=>by kernel_rfl) (qA g (l++[c]) Z Z) Z Z Z Z ?_)));rintro _ _ ⟨rfl,rfl⟩;refine A6 (O3 Z Z (by (rw[b];omega))) Z ?_;refine W7 ((by rw[b,show (((l.length+1:Nat):Int))-1=((l.length:Nat):Int) by omega];exact ND g (l++[c]) l.length (by omega) (by omega) f (by omega) Z Z)) Z Z Z ?_;rintro _ _ ⟨rfl,rfl⟩;refine B0 ?_;rw[o];skip;exact R6 (gF rfl) (by repeat (first | exact B7 | refine B8 rfl ?_ | refine V4 _ ?_ | refine E1 _ ?_)) (M3 (L:=[(740,_),(741,_)]) ⟨rfl,rfl,trivial⟩ (by repeat (first | exact J6 | refine N2 rfl ?_ | refine jY _ ?_))) ⟨rfl,rfl⟩
theorem KH{gf:Fr}{ob:Obs}(g:Graph)(l:List Int)(B:g.length<=1000)(C:l.length<=1000)(p:0<l.length)(y:∀x∈l,0<=x/\x<(g.length:Int))(r:C5 ob 740=some (cI g))(u:C5 ob 741=some (P0 l)) :
  AL.Met Tryz.prog 48 [rZ] gf ob [741] (fun rs ob'=>rs=[RG (I0 (jG (O5 g) l) (l.length-1))]/\ob'=(740,cI g)::(741,P0 ((jG (O5 g) l).take (l.length-1)))::Obs.forget 741 ob):=by
 have z:=K5 l 0 (l.length-1);have m:=qB (n:=(g.length:Int)) (i:=0) (j:=l.length-1) p (by omega) y;have c:x8 (O5 g) (l.length-1) (l.length-1+1) (U9 l 0 (l.length-1)) 0=jG (O5 g) l:=by unfold jG;rw[show l.length-1+1=l.length by omega]
 have d:(jG (O5 g) l).length=l.length:=by
  rw[<-c]
  exact (by
   have o:∀(f i:Nat) (x:List Int),(x8 (O5 g) (l.length-1) f x i).length=x.length:=by
    intro f;induction f with
    | zero=>intro i x;rfl
    | succ f A =>
     intro i x;rw[x8];split
     ·rfl
     ·split
      ·rfl
      ·rw[A,K5]
   rw[o,K5])
 refine AL.Met.introH Tryz.func48 (by decide) rfl rfl rfl (fun v=>?_);refine I7 (UJ 741 (l:=[(0,.s rZ)]) (L:=[(740,_),(741,_)]) ⟨B1 rfl,trivial⟩ v (by repeat (first | exact B7 | refine B8 rfl ?_)) ⟨r,u,trivial⟩) ?_;refine k2 ?_;refine A7 (A6 (A9 Z Z) Z (B0 ?_));refine k1 (k2 ?_);refine A7 (A6 (A8 Z Z) Z (aL (fun a q w=>by kernel_rfl) (qA g l Z Z) Z Z Z Z ?_));rintro _ _ ⟨rfl,rfl⟩;refine A6 (O3 Z Z (by omega)) Z (A6 (A9 Z Z) Z (B0 ?_));rw[show ((l.length:Nat):Int)-1=((l.length-1:Nat):Int) by omega];refine k1 (k2 ?_);refine A7 (A6 (A8 Z Z) Z (A6 (A8 Z Z) Z (aL (fun a q w=>by kernel_rfl) (lT g l 0 (l.length-1) p (by omega) Z Z) Z Z Z Z ?_)));rintro _ _ ⟨rfl,rfl⟩;refine B0 ?_;refine k1 (k2 ?_);refine A7 (A6 (A8 Z Z) Z (A6 (A8 Z Z) Z (W7 (GZ g (U9 l 0 (l.length-1)) (l.length-1) (by omega) (by omega) m (by omega) Z Z) Z Z Z ?_)));rintro _ _ ⟨b,rfl,rfl⟩;refine B0 ?_;rw[c];refine k1 (k2 ?_);refine A7 (A6 (A8 Z Z) Z (aL (fun a q w=>by kernel_rfl) ((by rw[<-d];exact KG g (jG (O5 g) l) (by omega) (by omega) Z Z)) Z Z Z Z ?_));rintro _ _ ⟨rfl,rfl⟩;refine A6 (A9 Z Z) Z (B0 ?_);rw[d];refine k1 (I8 ?_);exact G9 (O9 rfl rfl) (by repeat (first | exact B7 | refine B8 rfl ?_ | refine V4 _ ?_ | refine E1 _ ?_)) (M3 (L:=[(740,_),(741,_)]) ⟨rfl,rfl,trivial⟩ (by repeat (first | exact J6 | refine N2 rfl ?_ | refine jY _ ?_))) ⟨rfl,rfl⟩
theorem OInv.ub{g:Graph}{a:List Bool}{k i:Nat}{d c b:List Int}(h:OInv g a k i d c b)(p:Nat)(c:p<g.length):-1<=I0 d p/\I0 d p<=g.length:=by
 cases e:E9 a p
 ·have:=h.off p c e;omega
 ·have f:=h.cnt p c e;have j:=wL g a (b.take k) p;split at f<;>omega
theorem tN(g:Graph)(s:Int)(h:FewT g):FnOk Tryz.prog 17 [F4 g,K0 [s]] (fun rs=>rs=[K0 (Q7 g s).1,E6 (Q7 g s).2]):=by
 have hg:=h.few.len;refine FnOk.intro Tryz.func17 (by decide) Z Z Z Z ?_;refine k2 ?_;refine A7 (A6 (A9 Z Z) Z (A6 (A9 Z Z) Z (B0 ?_)));refine k1 (k2 (k2 ?_));refine A7 (A6 (A8 Z Z) Z (C8 (nZ g h) Z Z Z ?_));rintro _ rfl;refine A6 (A9 Z Z) Z (B0 ?_);refine k1 (k2 ?_);refine A7 (A6 (A8 Z Z) Z (A6 (P5 Z Z) Z (B0 ?_)));refine k1 ?_;refine B5 rfl (fun d=>?_) (fun d=>?_)
 ·have D:K2 g≠0:=A0 d;refine k2 ?_;refine A7 (A6 (A8 Z Z) Z (A6 (G8 _ 1 G2) Z (A6 (A9 Z Z) Z (B0 ?_))));refine k1 (I8 (M6 ?_));exact B9 (rs:=[K0 [],E6 (K2 g)]) (V2 rfl rfl rfl rfl rfl) (by unfold Q7;rw[A4 D])
 have D:¬K2 g≠0:=A1 d;have K:=U8 (Decidable.not_not.1 D);refine k5 (k1 (k2 (k2 ?_)));refine A7 (A6 (A8 Z Z) Z (A6 (F7 Z (.pure _ _ _ _)) Z (A6 (A8 Z Z) Z (B0 ?_))));refine k1 (k3 ?_);refine D9 (X:=Nat) (fun i=>([(0,E2 Commit 3 E7 g),(1,E2 Int 1 G2 [s]),(23,E2 Int 1 G2 [s]),(24,D1 1),(25,D1 i)],[])) (fun i=>i<=1/\(i=1->S5 g s)) (fun i=>1-i) 0 ⟨Nat.zero_le _,fun h=>by cases h⟩ (Sees.of ⟨B1 rfl,B1 rfl,B1 rfl,B1 rfl,B1 rfl,trivial⟩ trivial) ?_;rintro i ⟨U,hs⟩;dsimp only at U hs ⊢;refine k2 ?_;refine A7 (A6 (F1 Z Z) Z (B0 ?_));refine k1 (k2 ?_);refine B5 rfl (fun d=>?_) (fun d=>?_)
 ·have G:i=0:=by have D:=A0 d;omega
  subst G;have hv:[s][((0:Nat):Int).toNat]?=some s:=rfl;refine k5 (k1 (k2 (k3 (k2 ?_))));refine A7 (A6 (B6 Z (.pure _ _ _ _) Z (by omega) hv) Z (A6 (C0 Z Z) Z (A6 (A9 Z Z) Z (B0 ?_))));refine k1 (k2 ?_);refine A7 (A6 (A8 Z Z) Z (A6 (A8 Z Z) Z (C8 (vD g s) Z Z Z ?_)));rintro _ rfl;refine A6 (Y7 Z) Z (B0 ?_);refine k1 ?_;refine B5 rfl (fun d=>?_) (fun d=>?_)
  ·have z:¬S5 g s:=by simpa using d
   refine k2 ?_;refine A7 (A6 (G8 _ 1 G2) Z (A6 (A9 Z Z) Z (B0 ?_)));refine k1 (I8 (X4 (M6 (M6 (X4 (M6 ?_))))));exact B9 (rs:=[K0 [],E6 5]) (V2 rfl rfl rfl rfl rfl) (by unfold Q7;rw[A5 D,A5 z])
  ·have z:S5 g s:=by simpa using d
   refine k5 (k4 (k1 ?_));refine A7 (A6 (D8 Z Z (by omega)) Z (A6 (A8 Z Z) Z (B0 ?_)));refine k1 ?_;exact⟨1,⟨Nat.le_refl _,fun _=>z⟩,by omega,(Sees.of ⟨B1 rfl,B1 rfl,B1 rfl,B1 rfl,B1 rfl,trivial⟩ trivial)⟩
 have ai:i=1:=by have D:=A1 d;omega
 have hs:=hs ai;have ac:Q7 g s=(O2 g [s],0):=by unfold Q7;rw[A5 D,A4 hs]
 rw[ac];have ae:∀f∈[s],0<=f/\f<g.length:=fun f hf=>by rw[List.mem_singleton.1 hf];exact hs
 refine k6 (k2 ?_);refine A7 (A6 (A8 Z Z) Z (A6 (A9 Z Z) Z (B0 ?_)));refine k1 (k2 ?_);refine A7 (A6 (A8 Z Z) Z (A6 (A8 Z Z) Z (bF (vR g [s] h.few K.rel ae (by simp)) Z Z Z Z ?_)));rintro _ _ ⟨q,rfl,rfl,j,O⟩;refine⟨rfl,?_⟩;refine A6 (A9 Z Z) Z (B0 ?_);have T:=cY K.rel [s] ae;obtain⟨y,E⟩:∃y,y=F6 g [s]:=⟨_,rfl⟩
 have ak:y.length=g.length:=by rw[E];exact R1 g _
 have W:O2 g [s]=dA g y (g.length+1) []:=by rw[E];rfl
 rw[<-E]at O T;rw[W];have ap:∀p,p<g.length -> -1<=I0 q p/\I0 q p<=g.length:=fun p v=>by
  rw[O p v];have:=wL g y [] p;split<;>omega
 refine k1 (k2 ?_);refine A7 (A6 (A8 Z Z) Z (A6 (yA (cs:=[.list Commit 3 E7 g]) Z Z) Z (A6 (I9 Z) Z (D3 (dE 740 Z Z Z) Z (A6 (A9 Z Z) Z (B0 ?_))))));refine k1 (k2 (k2 ?_));refine I7 (UP 741 Int 1 G2 3 (kb:=740) (o:=0) Z Z Z) ?_;refine A7 (A6 (A8 Z Z) Z (A6 (lI Z Z) Z (A6 (A8 Z Z) Z (B0 ?_))));refine k1 (k3 ?_);refine D9 (X:=Nat×List Int) (fun x=>([(0,E2 Commit 3 E7 g),(10,.s (.one (.mut 753))),(11,.s (.one (.ref 740 0))),(42,.s (.one (.mut 753))),(43,D1 g.length),(44,D1 x.1)],[(740,cI g),(741,P0 x.2),(753,pZ q)])) (fun x=>x.1<=g.length/\HInv g q x.2 x.1) (fun x=>g.length-x.1) (0,[]) ⟨Nat.zero_le _,HInv.nil g q⟩ (by rw[<-j];exact (Sees.of ⟨B1 rfl,B1 rfl,B1 rfl,B1 rfl,B1 rfl,B1 rfl,trivial⟩ ⟨rfl,rfl,rfl,trivial⟩)) ?_;rintro⟨i,v⟩ ⟨U,R⟩;dsimp only at U R ⊢;have ab:=R.le;refine k2 ?_;refine A7 (A6 (F1 Z Z) Z (B0 ?_));refine k1 (k2 ?_);refine B5 rfl (fun d=>?_) (fun d=>?_)
 ·have G:i<g.length:=by have D:=A0 d;(try dsimp only at D);omega
  have J:=iT (l:=q) (p:=(i:Int)) (by omega);rw[VC]at J;have S:=R.step;have al:∀x∈v,0<=x/\x<(g.length:Int):=fun x hx=>by have:=R.rng x hx;omega
  refine k5 (k1 (k2 (k3 (k2 ?_))));refine A7 (A6 (A8 Z Z) Z (A6 (E5 Z Z Z (by omega) (by omega)) Z (A6 (L9 Z Z J Z) Z (A6 (A9 Z Z) Z (A6 (A9 Z Z) Z (B0 ?_))))));refine k1 (k2 ?_);refine A7 (A6 (A8 Z Z) Z (A6 (J1 Z Z) Z (B0 ?_)));refine k1 ?_;refine B5 rfl (fun d=>?_) (fun d=>?_)
  ·have z:I0 q i=0:=A0 d;rw[A4 z]at S;skip;refine A7 (A6 (A8 Z Z) Z (A6 (cA Z (by kernel_rfl)) Z (A6 (A8 Z Z) Z (A6 (iR Z (by kernel_rfl)) Z (W7 (tM g v i hg (by omega) al (by omega) Z Z) Z Z Z ?_)))));rintro _ _ ⟨rfl,rfl⟩;refine B0 ?_;refine k4 (k1 ?_);refine A7 (A6 (D8 Z Z (by omega)) Z (A6 (A8 Z Z) Z (B0 ?_)));refine k1 ?_;exact⟨(i+1,lC (O5 g) v i),⟨G,S⟩,by dsimp only;omega,(Sees.of ⟨B1 rfl,B1 rfl,B1 rfl,B1 rfl,B1 rfl,B1 rfl,trivial⟩ ⟨rfl,rfl,rfl,trivial⟩)⟩
  ·have z:¬I0 q i=0:=A1 d;rw[A5 z]at S;refine k5 (k4 (k1 ?_));refine A7 (A6 (D8 Z Z (by omega)) Z (A6 (A8 Z Z) Z (B0 ?_)));refine k1 ?_;exact⟨(i+1,v),⟨G,S⟩,by dsimp only;omega,(Sees.of ⟨B1 rfl,B1 rfl,B1 rfl,B1 rfl,B1 rfl,B1 rfl,trivial⟩ ⟨rfl,rfl,rfl,trivial⟩)⟩
 have aj:i=g.length:=by have D:=A1 d;(try dsimp only at D);omega
 rw[aj]at R;have w:=OInv.start j ak O R;refine k6 (k2 ?_);refine A7 (D3 (V3 14 _ G2 Z) Z (B0 ?_));refine k1 (k2 (k3 ?_));refine D9 (X:=List Int×List Int×List Int) (fun x=>([(0,E2 Commit 3 E7 g),(10,.s (.one (.mut 753))),(11,.s (.one (.ref 740 0))),(14,.s (.one (.buf 14 Int 1 G2 x.2.2)))],[(14,.spare x.2.2.length 1 3),(740,cI g),(741,P0 x.2.1),(753,pZ x.1)])) (fun x=>OInv g y x.2.2.length 0 x.1 x.2.1 x.2.2/\dA g y (g.length+1-x.2.2.length) x.2.2=dA g y (g.length+1) []) (fun x=>g.length+1-x.2.2.length) (q,v,[]) ⟨w,rfl⟩ (Sees.of ⟨B1 rfl,B1 rfl,B1 rfl,B1 rfl,trivial⟩ ⟨rfl,rfl,rfl,rfl,trivial⟩) ?_;rintro⟨q,v,B⟩ ⟨w,F⟩;dsimp only at w F ⊢;obtain⟨aq,ab⟩:=w.le;have j:=w.len;refine k2 (k2 ?_);refine A7 (A6 (A8 Z Z) Z (W7 (qA g v Z Z) Z Z Z ?_));rintro _ _ ⟨rfl,rfl⟩;refine A6 (N5 Z Z) Z (B0 ?_);refine k1 ?_;refine B5 rfl (fun d=>?_) (fun d=>?_);rotate_left
 ·have z:v=[]:=by
   have z:=A1 d;exact List.length_eq_zero_iff.1 (by omega)
  rw[z]at w;have hb:=w.fin;rw[LG (by omega)]at F;rw[<-F];refine k6 (k2 ?_);refine A7 (A6 (A8 Z Z) Z (A6 (A9 Z Z) Z (A6 (A9 Z Z) Z (B0 ?_))));refine k1 (I8 ?_);exact B9 (rs:=[K0 B,E6 0]) (V2 rfl rfl rfl rfl rfl) rfl
 have H:0<v.length:=by have z:=A0 d;omega
 obtain⟨b1,b2,b3⟩:=w.pop H;have hm:I0 v 0∈v:=by rw[M4 H];exact VE H
 have au:=w.hpr _ hm;obtain⟨c,hc⟩:∃c:Nat,I0 v 0=(c:Int):=⟨(I0 v 0).toNat,by omega⟩
 rw[HX (by omega) (by omega),b1,hc]at F;rw[hc]at b2 b3;have M:c<g.length:=by omega
 obtain⟨C,P⟩:∃C,C=g[c]:=⟨_,rfl⟩
 have am:g[((c:Nat):Int).toNat]?=some C:=by rw[P];simp[M]
 have I:D4 g c=C.Parents:=by rw[U6 M,P]
 have ao:=h.few.pars C (by rw[P];exact VE M);obtain⟨Q,L⟩:∃Q,Q=(jG (O5 g) v).take (v.length-1):=⟨_,rfl⟩
 refine k5 (k1 (k3 (k2 ?_)));refine A7 (A6 (A8 Z Z) Z (A6 (cA Z (by kernel_rfl)) Z (W7 (KH g v hg (by omega) H w.hpr Z Z) Z Z Z ?_)));rintro _ _ ⟨rfl,rfl⟩;refine A6 (mO Z Z) Z (A6 (A9 Z Z) Z (B0 ?_));rw[b3,<-L];rw[<-L]at b2;refine k1 (k2 ?_);refine A7 (A6 (A8 Z Z) Z (A6 (A8 Z Z) Z (A6 (D2 (c:=G2) (ys:=[(c:Int)]) (D6 Z Z Z Z G1) Z Z Z) Z (D3 (L2 Z Z Z (.pure _ _ _ _) (by (simp only[VD,VI];omega)) Z) Z (A6 (A9 Z Z) Z (B0 ?_))))));refine k1 (k2 ?_);refine A7 (A6 (A8 Z Z) Z (A6 (A8 Z Z) Z (A6 (B6 Z (.pure _ _ _ _) Z (by omega) am) Z (A6 (G5 Z) Z (A6 (C0 Z Z) Z (A6 (F7 Z (.pure _ _ _ _)) Z (A6 (A8 Z Z) Z (B0 ?_))))))));refine k1 (k3 ?_);refine D9 (X:=Nat×List Int×List Int) (fun x=>([(0,E2 Commit 3 E7 g),(10,.s (.one (.mut 753))),(11,.s (.one (.ref 740 0))),(14,.s (.one (.buf 14 Int 1 G2 (B++[(c:Int)])))),(72,E2 Int 1 G2 C.Parents),(73,D1 C.Parents.length),(74,D1 x.1)],[(14,.spare (B++[(c:Int)]).length 1 3),(740,cI g),(741,P0 x.2.2),(753,pZ x.2.1)])) (fun x=>x.1<=C.Parents.length/\OInv g y B.length x.1 x.2.1 x.2.2 (B++[(c:Int)])) (fun x=>C.Parents.length-x.1) (0,q,Q) ⟨Nat.zero_le _,b2⟩ (Sees.of ⟨B1 rfl,B1 rfl,B1 rfl,B1 rfl,B1 rfl,B1 rfl,B1 rfl,trivial⟩ ⟨rfl,rfl,rfl,rfl,trivial⟩) ?_;rintro⟨i,q,v⟩ ⟨U,w⟩;dsimp only at U w ⊢;obtain⟨V,ab⟩:=w.le;have j:=w.len;have av:=OInv.ub w;have ag:(B++[(c:Int)])[B.length]?=some (c:Int):=by rw[VO (Nat.le_refl _),WN];rfl
 rw[VF,List.length_singleton]at V;refine k2 ?_;refine A7 (A6 (F1 Z Z) Z (B0 ?_));refine k1 (k2 ?_);refine B5 rfl (fun d=>?_) (fun d=>?_);rotate_left
 ·have z:i=C.Parents.length:=by have D:=A1 d;(try dsimp only at D);omega
  rw[z,<-I]at w;have S:=w.next (by simp) ag;refine k6 (k7 (k7 (k8 Z (k4 (k1 ?_)))));refine⟨(q,v,B++[(c:Int)]),⟨S,?_⟩,by dsimp only;rw[VF,List.length_singleton];omega,(Sees.of ⟨B1 rfl,B1 rfl,B1 rfl,B1 rfl,trivial⟩ ⟨rfl,rfl,rfl,rfl,trivial⟩)⟩;dsimp only;rw[<-F,VF,List.length_singleton]
  congr 1<;>omega
 have A:i<C.Parents.length:=by have D:=A0 d;(try dsimp only at D);omega
 have ar:=(I3 K.rel c).1 C.Parents[i] (by rw[I];exact VE A);obtain⟨p,Y⟩:∃p:Nat,C.Parents[i]=(p:Int):=⟨C.Parents[i].toNat,by omega⟩
 have an:C.Parents[i]?=some (p:Int):=by rw[VA A,Y]
 obtain⟨s1,s2,s3,s4,s5⟩:=w.step K.rel T (by simp) ag (i:=i) (p:=p) (by rw[I];exact A) (by simp only[I];exact Y);have J:=iT (l:=q) (p:=(p:Int)) (by omega);have af:(R2 q p)[((p:Nat):Int).toNat]?=some (I0 q p-1):=by
  unfold R2;rw[VC,WX (by omega)]
 have ah:(R2 q p).length=g.length:=by unfold R2;rw[VY,j]
 have ad:q.set ((p:Nat):Int).toNat (I0 q ((p:Nat):Int).toNat-1)=R2 q p:=rfl;refine k5 (k1 (k2 (k3 (k2 ?_))));refine A7 (A6 (B6 Z (.pure _ _ _ _) Z (by omega) an) Z (A6 (C0 Z Z) Z (A6 (A9 Z Z) Z (B0 ?_))));refine k1 (k2 ?_);refine A7 (A6 (A8 Z Z) Z (A6 (A8 Z Z) Z (A6 (E5 Z Z Z (by omega) (by (rw[j];omega))) Z ?_)));refine A6 (L9 Z Z J Z) Z (A6 (O3 Z Z (by (rw[VC];omega))) Z ?_);refine A6 (E5 Z Z Z (by omega) (by (rw[j];omega))) Z ?_;refine H3 (K9 TySz.out Z Z (by (rw[j];omega)) Z Z) ?_;refine B0 ?_;rw[ad];refine k1 (k2 ?_);refine A7 (A6 (A8 Z Z) Z (A6 (A8 Z Z) Z (A6 (E5 Z Z Z (by omega) (by (rw[ah];omega))) Z ?_)));refine A6 (L9 Z Z af Z) Z (A6 (J1 Z Z) Z (B0 ?_));refine k1 ?_;refine B5 rfl (fun d=>?_) (fun d=>?_)
 ·have z:I0 q p-1=0:=A0 d;rw[A4 z]at s5;skip;refine A7 (A6 (A8 Z Z) Z (A6 (cA Z (by kernel_rfl)) Z (A6 (A8 Z Z) Z (A6 (iR Z (by kernel_rfl)) Z (W7 (tM g v p hg (by omega) w.hpr (by omega) Z Z) Z Z Z ?_)))));rintro _ _ ⟨rfl,rfl⟩;refine B0 ?_;refine k4 (k1 ?_);refine A7 (A6 (D8 Z Z (by omega)) Z (A6 (A8 Z Z) Z (B0 ?_)));refine k1 ?_;exact⟨(i+1,R2 q p,lC (O5 g) v p),⟨A,s5⟩,by dsimp only;omega,(Sees.of ⟨B1 rfl,B1 rfl,B1 rfl,B1 rfl,B1 rfl,B1 rfl,B1 rfl,trivial⟩ ⟨rfl,rfl,rfl,rfl,trivial⟩)⟩
 ·have z:¬I0 q p-1=0:=A1 d;rw[A5 z]at s5;refine k5 (k4 (k1 ?_));refine A7 (A6 (D8 Z Z (by omega)) Z (A6 (A8 Z Z) Z (B0 ?_)));refine k1 ?_;exact⟨(i+1,R2 q p,v),⟨A,s5⟩,by dsimp only;omega,(Sees.of ⟨B1 rfl,B1 rfl,B1 rfl,B1 rfl,B1 rfl,B1 rfl,B1 rfl,trivial⟩ ⟨rfl,rfl,rfl,rfl,trivial⟩)⟩
abbrev UE(l:List Int):S1:=.one (.p (.list Int 1 G2 l))
theorem KI(f:Str×Str->Bool)(g:Graph)(c:Nat):(Q6 g c).flatten.any f=d9 f g c:=by
 unfold d9;rw[List.any_flatten]
theorem zF(g:Graph)(s:Int)(f:FuncId)(α:Type)(I:Nat)(H:α->Nat->Cell)(v:α)(j:Str×Str->Bool)(h:FewT g)(Q:Short g)
  (hf:Valid g->∀c:Nat,c<g.length->∀x∈(Q6 g c).flatten,AL.Met Tryz.prog f [EM x,.one (.eref α I H v 0)] [] [] [] (fun rs ob'=>rs=[gU (j x)]/\ob'=[])) :
  AL.Met Tryz.prog 63 [.one (.p (.list Commit 3 E7 g)),pS s,.one (.fncE f α I H v)] [] [] [] (fun rs ob'=>rs=[UE (X1 j g s).1,pS (X1 j g s).2]/\ob'=[]):=by
 refine AL.Met.intro Tryz.func63 (by decide) Z Z Z ?_;refine k2 ?_;refine A7 (A6 (A9 Z Z) Z (A6 (A9 Z Z) Z (B0 ?_)));refine k1 (k2 ?_);refine A7 (A6 (A8 Z Z) Z (A6 (A8 Z Z) Z (A6 (D2 (c:=G2) (ys:=[s]) (D6 Z Z Z Z G1) Z Z Z) Z (C8 (tN g s h) Z Z Z ?_))));rintro _ rfl;refine A6 (A8 Z Z) Z (A6 (C1 Z Z) Z (A6 (C1 Z Z) Z (A6 (A9 Z Z) Z (A6 (A9 Z Z) Z (B0 ?_)))));refine k1 (k2 (k2 ?_));refine A7 (A6 (A8 Z Z) Z (A6 (P5 Z Z) Z (B0 ?_)));refine k1 ?_;refine B5 rfl (fun q=>?_) (fun q=>?_)
 ·have B:(Q7 g s).2≠0:=A0 q;refine k2 ?_;refine A7 (A6 (A8 Z Z) Z (A6 (G8 _ 1 G2) Z (A6 (A9 Z Z) Z (B0 ?_))));refine k1 (I8 (M6 ?_));exact G9 (RetOk.s2 (V2 rfl rfl rfl rfl rfl)) (by repeat (first | exact B7 | refine B8 rfl ?_ | refine E1 _ ?_)) (ObIn.spec (ob':=[]) trivial) ⟨by unfold X1;rw[A4 B],rfl⟩
 have B:¬(Q7 g s).2≠0:=A1 q;obtain⟨R,A,D⟩:Valid g/\(∀x∈(Q7 g s).1,0<=x/\x<(g.length:Int))/\(Q7 g s).1.Nodup:=by
  unfold Q7 at B ⊢;split at B
  ·rename_i J;exact absurd J B
  ·rename_i J;rw[A5 J];have:=U8 (Decidable.not_not.1 J);split
   ·exact⟨this,(aC g [s]).2,(aC g [s]).1⟩
   ·exact⟨this,(fun _ h=>by cases h),List.nodup_nil⟩
 have z:X1 j g s=((Q7 g s).1.filter fun c=>d9 j g c.toNat,0):=by unfold X1;rw[A5 B]
 rw[z];obtain⟨O,U⟩:∃O,O=(Q7 g s).1:=⟨_,rfl⟩
 rw[<-U]at A D ⊢;have V:=U5 D A;have hg:=h.few.len;refine k5 (k1 (k2 ?_));refine A7 (D3 (V3 10 _ G2 Z) Z (B0 ?_));refine k1 (k2 (k2 ?_));refine A7 (A6 (A8 Z Z) Z (A6 (F7 Z (.pure _ _ _ _)) Z (A6 (A8 Z Z) Z (B0 ?_))));refine k1 (k3 ?_);refine D9 (X:=Nat) (fun k=>([(0,E2 Commit 3 E7 g),(2,.s (.one (.fncE f α I H v))),(10,.s (.one (.buf 10 Int 1 G2 ((O.take k).filter fun c=>d9 j g c.toNat)))),(23,E2 Int 1 G2 O),(24,D1 O.length),(25,D1 k)],[(10,.spare ((O.take k).filter fun c=>d9 j g c.toNat).length 1 3)])) (fun k=>k<=O.length) (fun k=>O.length-k) 0 (Nat.zero_le _) (Sees.of ⟨B1 rfl,B1 rfl,B1 rfl,B1 rfl,B1 rfl,B1 rfl,trivial⟩ ⟨rfl,trivial⟩) ?_;intro k hk;dsimp only at hk ⊢;have C:=List.length_filter_le (fun c:Int=>d9 j g c.toNat) (O.take k);rw[VM]at C;refine k2 ?_;refine A7 (A6 (F1 Z Z) Z (B0 ?_));refine k1 (k2 ?_);refine B5 rfl (fun q=>?_) (fun q=>?_);rotate_left
 ·have P:k=O.length:=by have K:=A1 q;(try dsimp only at K);omega
  rw[P,VJ];refine k6 (k2 ?_);refine A7 (A6 (A8 Z Z) Z (A6 (A9 Z Z) Z (A6 (A9 Z Z) Z (B0 ?_))));refine k1 (I8 ?_);exact G9 (RetOk.s2 (V2 rfl rfl rfl rfl rfl)) (by repeat (first | exact B7 | refine B8 rfl ?_ | refine E1 _ ?_)) (ObIn.spec (ob':=[]) trivial) ⟨rfl,rfl⟩
 have y:k<O.length:=by have K:=A0 q;(try dsimp only at K);omega
 have Y:=A _ (VE y);obtain⟨c,W⟩:∃c:Nat,O[k]=(c:Int):=⟨O[k].toNat,by omega⟩
 have G:O[k]?=some (c:Int):=by rw[VA y,W]
 have m:(O.take (k+1)).filter (fun c=>d9 j g c.toNat)=((O.take k).filter fun c=>d9 j g c.toNat)++(if d9 j g c=true then [(c:Int)] else []):=by
  rw[List.take_add_one,G,Option.toList_some,WW]
  congr 1
  rw[List.filter_cons,VC];rfl
 obtain⟨F,T⟩:∃F,F=(O.take k).filter fun c=>d9 j g c.toNat:=⟨_,rfl⟩
 rw[<-T]at C m ⊢;have S:=tF h R c;have w:=cH S (Q6 g c).length;unfold c7 at w;rw[VJ]at w;have M:=hf R c (by omega);have L:=KI j g c;refine k5 (k1 (k2 (k3 (k2 ?_))));refine A7 (A6 (B6 Z (.pure _ _ _ _) Z (by omega) G) Z (A6 (C0 Z Z) Z (A6 (A9 Z Z) Z (B0 ?_))));refine k1 (k2 ?_);refine A7 (A6 (A8 Z Z) Z (A6 (A8 Z Z) Z (C8 (GD g c h R Q (by omega)) Z Z Z ?_)));rintro _ rfl;refine C8 (rY (Q6 g c) S) Z Z Z ?_;rintro _ rfl;refine A6 (A8 Z Z) Z (bF (lQ f α I H v j (Q6 g c).flatten (by omega) M) Z Z Z Z ?_);rintro _ _ ⟨rfl,rfl⟩;refine⟨rfl,?_⟩;refine B0 ?_;rw[L];refine k1 ?_;refine B5 rfl (fun q=>?_) (fun q=>?_)
 ·rw[A4 q]at m;skip;refine A7 (A6 (A8 Z Z) Z (A6 (A8 Z Z) Z (A6 (D2 (c:=G2) (ys:=[(c:Int)]) (D6 Z Z Z Z G1) Z Z Z) Z (D3 (L2 Z Z Z (.pure _ _ _ _) (by (simp only[VD,VI];omega)) Z) Z (A6 (A9 Z Z) Z (B0 ?_))))));refine k4 (k1 ?_);refine A7 (A6 (D8 Z Z (by omega)) Z (A6 (A8 Z Z) Z (B0 ?_)));refine k1 ?_;refine⟨k+1,by omega,by omega,?_⟩;rw[m];exact (Sees.of ⟨B1 rfl,B1 rfl,B1 rfl,B1 rfl,B1 rfl,B1 rfl,trivial⟩ ⟨rfl,trivial⟩)
 ·rw[q,A5 (by decide),WL]at m;refine k5 (k4 (k1 ?_));refine A7 (A6 (D8 Z Z (by omega)) Z (A6 (A8 Z Z) Z (B0 ?_)));refine k1 ?_;refine⟨k+1,by omega,by omega,?_⟩;rw[m];exact (Sees.of ⟨B1 rfl,B1 rfl,B1 rfl,B1 rfl,B1 rfl,B1 rfl,trivial⟩ ⟨rfl,trivial⟩)
theorem zG(g:Graph)(s:Int)(a:Str)(h:FewT g)(f:Short g)(m:a.length<=1073741824):FnOk Tryz.prog 24 [F4 g,E6 s,H1 a] (fun rs=>rs=[K0 (S7 g s a).1,E6 (S7 g s a).2]):=by
 refine FnOk.intro Tryz.func24 (by decide) Z Z Z Z ?_;refine k2 ?_;refine A7 (A6 (PC Z Z) Z (A6 (G8 _ 1 G2) Z (A6 (A9 Z Z) Z (B0 ?_))));refine k1 (k2 (k3 (k2 ?_)));refine A7 (A6 (C0 Z Z) Z (A6 (a8 Z Z) Z (A6 (A9 Z Z) Z (B0 ?_))));refine k1 ?_;refine B5 rfl (fun b=>?_) (fun b=>?_)
 ·have e:a=[]:=A0 b;refine k2 ?_;refine A7 (A6 (G8 _ 1 G2) Z (A6 (A9 Z Z) Z (B0 ?_)));refine k1 (I8 (X4 (M6 ?_)));exact B9 (rs:=[K0 [],E6 2]) (V2 rfl rfl rfl rfl rfl) (by unfold S7;rw[A4 e])
 have e:¬a=[]:=A1 b;refine k2 ?_;refine A7 (A6 (C0 Z Z) Z (A6 (L1 Z) Z (A6 (N5 Z Z) Z (A6 (A9 Z Z) Z (B0 ?_)))));refine k1 ?_;refine B5 rfl (fun b=>?_) (fun b=>?_)
 ·have j:(256:Int)<a.length:=A0 b;refine k2 ?_;refine A7 (A6 (G8 _ 1 G2) Z (A6 (A9 Z Z) Z (B0 ?_)));refine k1 (I8 (X4 (M6 ?_)));exact B9 (rs:=[K0 [],E6 1]) (V2 rfl rfl rfl rfl rfl) (by unfold S7;rw[A5 e,A4 (by omega)])
 have j:¬(256:Int)<a.length:=A1 b;have d:S7 g s a=X1 (differs a) g s:=by unfold S7;rw[A5 e,A5 (by omega)]
 rw[d];refine k5 (k2 ?_);refine A7 (A6 (A8 Z Z) Z (A6 (A8 Z Z) Z (A6 (eG Z) Z ?_)))
 refine bF (zF g s 64 Unit 1 (cE a) () (differs a) h f (fun n c p x o=>by
  obtain⟨l,k,i⟩:=List.mem_flatten.1 o;have hb:=(tF h n c).strs l k x i
  exact JW a x m hb.1 hb.2)) rfl rfl rfl rfl ?_
 rintro _ _ ⟨rfl,rfl⟩;refine⟨rfl,?_⟩;refine A6 (C1 Z Z) Z (A6 (C1 Z Z) Z (A6 (A9 Z Z) Z (A6 (A9 Z Z) Z (B0 ?_))));refine k1 (I8 ?_);exact B9 (rs:=[K0 (X1 (differs a) g s).1,E6 (X1 (differs a) g s).2]) (V2 rfl rfl rfl rfl rfl) rfl
structure GF (B:Nat) (l:List File):Prop where
 len:l.length<=4
 all:∀f∈l,f.Path.length<=3/\f.Blob.length<=B
theorem GF.few{B:Nat}{l:List File}(h:GF B l)(b:B<=16777216):FewF l :=
 ⟨by have:=h.len;omega,fun f a=>by have:=(h.all f a).1;omega,fun f a=>by have:=(h.all f a).2;omega⟩
theorem GF.mono{B B':Nat}{l:List File}(h:GF B l)(b:B<=B'):GF B' l:=⟨h.len,fun f a=>⟨(h.all f a).1,by have:=(h.all f a).2;omega⟩⟩
theorem RU(i:Nat)(h:i<4):∃b:Str,names4[((i:Nat):Int).toNat]?=some b/\b.length<=3:=by
 rw[VC]
 match i,h with
 | 0,_=>exact⟨_,rfl,by decide⟩
 | 1,_=>exact⟨_,rfl,by decide⟩
 | 2,_=>exact⟨_,rfl,by decide⟩
 | 3,_=>exact⟨_,rfl,by decide⟩
theorem CN(a:Str)(b:List Int)(k:Int):(aM a b k).length<=5*a.length:=by
 have c:=cF b k (G4 a) 0 [];have d:=w8 a;rw[X5]at c;unfold aM;simp only[VI]at c;omega
theorem HA(k:Int):(Y4 k).count 10=0:=by
 have h:∀s∈lineTab,s.count 10=0:=by decide
 have d:=U0 k (n:=10) (by omega);have b:(R0 k 10).toNat<lineTab.length:=by show _<10;omega
 unfold Y4;rw[VK,VA b];exact h _ (VE b)
theorem cJ(a:List Int)(k:Int):∀(l:List Str) (i:Nat) (s:Str),(W4 a k i s l).count 10<=s.count 10+l.flatten.count 10+l.length
 | [],i,s=>by simp[W4]
 | x::r,i,s=>by
  have e:=cJ a k r (i+1) s;have f:=cJ a k r (i+1) (s++Y4 (W9 a (k+40+(i:Int)))++[10]++x);have g:=cJ a k r (i+1) (s++x);have b:=HA (W9 a (k+40+(i:Int)));have d:List.count (10:UInt8) [10]=1:=by decide
  simp only[List.count_append,b,d,WO,VD]at *;unfold W4;split
  ·omega
  split
  ·omega
  ·omega
theorem CO(a:Str)(b:List Int)(k:Int):(aM a b k).count 10<=2*a.count 10+1:=by
 have d:=cJ b k (G4 a) 0 [];have e:=aV a;rw[X5]at d;unfold aM;simp only[List.count_nil]at d;split at e<;>omega
theorem qC(k:Int):NoDig (Y4 k):=by
 have h:∀s∈lineTab,∀c∈s,c.toNat<48\/57<c.toNat:=by decide
 have d:=U0 k (n:=10) (by omega);have b:(R0 k 10).toNat<lineTab.length:=by show _<10;omega
 unfold Y4;rw[VK,VA b];exact h _ (VE b)
theorem KJ:NoDig [10]:=fun c a=>by rw[List.mem_singleton.1 a];decide
theorem cK(b:List Int)(k:Int):∀(l:List Str) (i:Nat) (s:Str),NoDig s->(∀x∈l,NoDig x)->NoDig (W4 b k i s l)
 | [],_,_,hs,_=>hs
 | x::r,i,s,hs,hl=>by
  have d:=hl x (by simp);have c:∀y∈r,NoDig y:=fun y e=>hl y (by simp[e]);unfold W4;split
  ·exact cK b k r _ _ hs c
  split
  ·exact cK b k r _ _ (((hs.app (qC _)).app KJ).app d) c
  ·exact cK b k r _ _ (hs.app d) c
theorem CP{a:Str}(h:NoDig a)(b:List Int)(k:Int):NoDig (aM a b k) :=
 cK b k _ 0 [] (fun _ h=>by cases h) fun x e=>h.sub fun c d=>by rw[<-X5 a];exact List.mem_flatten.2 ⟨x,e,d⟩
theorem aR(d:List Int)(k b:Int):∀m,NoDig (S6 d k b m)
 | 0=>fun c e=>by simp[S6]at e
 | m+1=>by rw[v8];exact ((aR d k b m).app (qC _)).app KJ
theorem CQ(d:List Int)(k n a:Int):NoDig (cD d k n a):=by
 unfold cD;simp only;split
 ·exact (aR d k a _).sub fun c e=>List.mem_of_mem_take e
 ·exact aR d k a _
theorem vS{α:Type}{l:List α}{i:Nat}{x:α}(h:l[i]?=some x):l.take (i+1)=l.take i++[x]:=by rw[List.take_add_one,h];rfl
theorem tO(j:List Int)(k d:Int)(I:0<=k/\k<=1000000)(C:0<=d/\d<=16):FnOk Tryz.prog 27 [K0 j,E6 k,E6 d] (fun rs=>∃l,rs=[R7 l]/\GF 64 l/\GN 64 l):=by
 refine FnOk.intro Tryz.func27 (by decide) Z Z Z Z ?_;refine k2 ?_;refine A7 (A6 (A9 Z Z) Z (B0 ?_));refine k1 (k2 ?_);refine A7 (A6 (D2 (c:=y1) (ys:=names4) (D6 Z Z Z Z (D6 Z Z Z Z (D6 Z Z Z Z (D6 Z Z Z Z G1)))) Z Z Z) Z (A6 (A9 Z Z) Z (B0 ?_)));refine k1 (k2 ?_);refine A7 (D3 (V3 8 _ Q4 Z) Z (B0 ?_));refine k1 (k2 (k2 ?_));refine A7 (A6 (A9 Z Z) Z (B0 ?_));refine k1 (k3 ?_);refine D9 (X:=Nat×List File) (fun x=>([(0,E2 Int 1 G2 j),(1,D1 k),(2,D1 d),(7,E2 Str 1 y1 names4),(8,.s (.one (.buf 8 File 2 Q4 x.2))),(9,D1 x.1)],[(8,.spare x.2.length 2 72)])) (fun x=>x.1<=4/\x.2.length<=x.1/\(∀f∈x.2,f.Path.length<=3/\f.Blob.length<=64)/\(x.2.map (·.Path)).Sublist (names4.take x.1)/\∀f∈x.2,NoDig f.Blob) (fun x=>4-x.1) (0,[]) ⟨Nat.zero_le _,Nat.le_refl _,(fun _ h=>by cases h),List.Sublist.refl [],(fun _ h=>by cases h)⟩ (Sees.of ⟨B1 rfl,B1 rfl,B1 rfl,B1 rfl,B1 rfl,B1 rfl,trivial⟩ ⟨rfl,trivial⟩) ?_;rintro⟨i,w⟩ ⟨H,E,g,m,v⟩;dsimp only at H E g m v ⊢;refine k2 (k2 ?_);refine A7 (A6 (A8 Z Z) Z (A6 (F1 Z Z) Z (B0 ?_)));refine k1 ?_;refine B5 rfl (fun B=>?_) (fun B=>?_);rotate_left
 ·refine k6 (k2 ?_);refine A7 (A6 (A8 Z Z) Z (A6 (A9 Z Z) Z (B0 ?_)));refine k1 (I8 ?_);exact B9 (rs:=[R7 w]) (I5 rfl rfl rfl) ⟨w,rfl,⟨by omega,g⟩,m.trans (List.take_sublist _ _),fun f q=>Nat.le_trans List.count_le_length (g f q).2,v⟩
 have y:i<4:=by have C:=A0 B;(try dsimp only at C);omega
 obtain⟨F,z,D⟩:=RU i y;have A:names4.take (i+1)=names4.take i++[F]:=vS (by rw[<-z,VC]);refine k5 (k1 (k2 (k3 (k2 ?_))));refine A7 (A6 (A8 Z Z) Z (A6 (A8 Z Z) Z (A6 (A8 Z Z) Z (A6 (D8 Z Z (by omega)) Z (C8 (y7 j (k+(i:Int)) (by omega) (by omega)) Z Z Z ?_)))));rintro _ rfl;refine A6 (gC Z Z (by omega)) Z (A6 (N5 Z Z) Z (B0 ?_));refine k1 ?_;refine B5 rfl (fun B=>?_) (fun B=>?_)
 ·have G:=BL j (k+10+20*(i:Int)) d 4 C.1;skip;refine H2 (by kernel_rfl) (by kernel_rfl) (C2 (A8 Z Z) Z Z (C2 (A8 Z Z) Z Z (C2 (A8 Z Z) Z Z (C2 (B6 Z (.pure _ _ _ _) Z (by omega) z) Z Z (C2 (C0 Z Z) Z Z (C2 (A8 Z Z) Z Z (C2 (A8 Z Z) Z Z (C2 (D8 Z Z (by omega)) Z Z (C2 (A8 Z Z) Z Z (C2 (sD Z Z (by omega)) Z Z (C2 (D8 Z Z (by omega)) Z Z (C2 (A8 Z Z) Z Z (C2 (L3 (MS j (k+10+20*(i:Int)) d 4 (by omega) (by omega) (by omega)) Z Z) Z Z (C2 (I9 Z) Z Z (C2 (D2 (c:=Q4) (ys:=[⟨F,cD j (k+10+20*(i:Int)) d 4⟩]) (D6 Z Z Z Z G1) Z Z Z) Z Z (IS (L2 Z Z Z (.pure _ _ _ _) (by (simp only[VD,VI];omega)) Z) Z Z (C2 (A9 Z Z) Z Z (i7 ?_))))))))))))))))));refine k4 (k1 ?_);refine A7 (A6 (A8 Z Z) Z (A6 (D8 Z Z (by omega)) Z (A6 (A9 Z Z) Z (B0 ?_))));refine k1 ?_;refine⟨(i+1,w++[⟨F,cD j (k+10+20*(i:Int)) d 4⟩]),⟨y,by rw[VF,List.length_singleton];omega,fun f q=>?_,by dsimp only;rw[A,WC];exact m.append (List.Sublist.refl _),fun f q=>?_⟩,by dsimp only;omega,(Sees.of ⟨B1 rfl,B1 rfl,B1 rfl,B1 rfl,B1 rfl,B1 rfl,trivial⟩ ⟨rfl,trivial⟩)⟩
  ·rcases VG.1 q with q | q
   ·exact g f q
   ·rw[List.mem_singleton.1 q];exact⟨D,by dsimp only;omega⟩
  ·rcases VG.1 q with q | q
   ·exact v f q
   ·rw[List.mem_singleton.1 q];exact CQ _ _ _ _
 ·refine k5 (k4 (k1 ?_));refine A7 (A6 (A8 Z Z) Z (A6 (D8 Z Z (by omega)) Z (A6 (A9 Z Z) Z (B0 ?_))));refine k1 ?_;exact⟨(i+1,w),⟨y,by dsimp only;omega,g,by dsimp only;rw[A];exact m.trans (List.sublist_append_left _ _),v⟩,by dsimp only;omega,(Sees.of ⟨B1 rfl,B1 rfl,B1 rfl,B1 rfl,B1 rfl,B1 rfl,trivial⟩ ⟨rfl,trivial⟩)⟩
theorem CR(l:List File)(g:List Int)(k j:Int)(B L:Nat)(O:GF B l)(J:GN L l)(hL:32<=L)(hB:B<=3000000)(R:0<=k/\k<=1000000)(I:0<=j/\j<=16):FnOk Tryz.prog 28 [R7 l,K0 g,E6 k,E6 j] (fun rs=>∃E,rs=[R7 E]/\GF (5*B+64) E/\GN (2*L+1) E):=by
 have W:=O.len;refine FnOk.intro Tryz.func28 (by decide) Z Z Z Z ?_;refine k2 ?_;refine A7 (A6 (A9 Z Z) Z (B0 ?_));refine k1 (k2 ?_);refine A7 (D3 (V3 9 _ Q4 Z) Z (B0 ?_));refine k1 (k2 ?_);refine A7 (A6 (A8 Z Z) Z (A6 (A8 Z Z) Z (A6 (D8 Z Z (by omega)) Z (C8 (y7 g (k+3) (by omega) (by omega)) Z Z Z ?_))));rintro _ rfl;refine C8 (eH (W9 g (k+3)) 4 (by omega) (by omega)) Z Z Z ?_;rintro _ rfl;refine A6 (A9 Z Z) Z (B0 ?_);obtain⟨m,Y⟩:∃m,m=R0 (W9 g (k+3)) 4:=⟨_,rfl⟩
 rw[<-Y];refine k1 (k2 (k2 ?_));refine A7 (A6 (A9 Z Z) Z (B0 ?_));refine k1 (k3 ?_);refine D9 (X:=Nat×List File) (fun x=>([(0,E2 File 2 Q4 l),(1,E2 Int 1 G2 g),(2,D1 k),(3,D1 j),(9,.s (.one (.buf 9 File 2 Q4 x.2))),(10,D1 m),(11,D1 x.1)],[(9,.spare x.2.length 2 72)])) (fun x=>x.1<=l.length/\x.2.length<=x.1/\(∀f∈x.2,f.Path.length<=3/\f.Blob.length<=5*B+64)/\(x.2.map (·.Path)).Sublist ((l.take x.1).map (·.Path))/\(∀f∈x.2,f.Blob.count 10<=2*L+1)/\∀f∈x.2,NoDig f.Blob) (fun x=>l.length-x.1) (0,[]) ⟨Nat.zero_le _,Nat.le_refl _,(fun _ h=>by cases h),List.Sublist.refl [],(fun _ h=>by cases h),(fun _ h=>by cases h)⟩ (Sees.of ⟨B1 rfl,B1 rfl,B1 rfl,B1 rfl,B1 rfl,B1 rfl,B1 rfl,trivial⟩ ⟨rfl,trivial⟩) ?_;rintro⟨i,A⟩ ⟨V,N,q,v,y,z⟩;dsimp only at V N q v y z ⊢;refine k2 (k2 ?_);refine A7 (A6 (A8 Z Z) Z (A6 (A8 Z Z) Z (A6 (F7 Z (.pure _ _ _ _)) Z (A6 (F1 Z Z) Z (B0 ?_)))));refine k1 ?_;refine B5 rfl (fun C=>?_) (fun C=>?_);rotate_left
 ·refine k6 (k2 (k2 ?_));refine A7 (A6 (A8 Z Z) Z (A6 (F7 Z (.buf _ _ _ _ _)) Z (A6 (J1 Z Z) Z (B0 ?_))));refine k1 ?_;refine B5 rfl (fun C=>?_) (fun C=>?_)
  ·refine k2 ?_;refine A7 (A6 (A8 Z Z) Z (A6 (A8 Z Z) Z (A6 (A8 Z Z) Z (C8 (tO g k j R I) Z Z Z ?_))));rintro _ ⟨E,rfl,K,M⟩;refine A6 (A9 Z Z) Z (B0 ?_);refine k1 (I8 (M6 ?_));exact B9 (rs:=[R7 E]) (I5 rfl rfl rfl) ⟨E,rfl,K.mono (by omega),M.mono (by omega)⟩
  ·refine k5 (k1 (k2 ?_));refine A7 (A6 (A8 Z Z) Z (A6 (A9 Z Z) Z (B0 ?_)));refine k1 (I8 ?_);exact B9 (rs:=[R7 A]) (I5 rfl rfl rfl) ⟨A,rfl,⟨by omega,q⟩,(v.trans ((List.take_sublist _ _).map _)).trans J.sub,y,z⟩
 have w:i<l.length:=by have I:=A0 C;(try dsimp only at I);omega
 obtain⟨f,H⟩:∃f,f=l[i]:=⟨_,rfl⟩
 have Q:l[i]?=some f:=by rw[H];simp[w]
 obtain⟨G,T⟩:=O.all f (by rw[H];exact VE w);have ac:=CN f.Blob g (k+7);have ab:=CO f.Blob g (k+7);have U:=J.cnt f (by rw[H];exact VE w);have F:=J.dig f (by rw[H];exact VE w);have D:(l.take (i+1)).map (·.Path)=(l.take i).map (·.Path)++[f.Path]:=by rw[vS Q,WC];rfl
 refine k5 (k1 (k2 (k3 (k2 ?_))));refine A7 (A6 (A8 Z Z) Z (A6 (A8 Z Z) Z (A6 (B6 Z (.pure _ _ _ _) Z (by omega) Q) Z (A6 (H7 Z Z) Z (D3 (L4 12 Z) Z (H3 (D5 TySz.out Z Z Z Z Z Z) (B0 ?_)))))));refine k1 (k2 (k2 ?_));refine A7 (A6 (A8 Z Z) Z (A6 (A8 Z Z) Z (A6 (J1 Z Z) Z (B0 ?_))));refine k1 ?_;refine B5 rfl (fun C=>?_) (fun C=>?_)
 ·refine k2 ?_;refine A7 (A6 (B2 Z) Z (A6 (B4 Z Z Z) Z (A6 (A8 Z Z) Z (A6 (A8 Z Z) Z (A6 (D8 Z Z (by omega)) Z (C8 (MT f.Blob g (k+7) (by omega) (by omega)) Z Z Z ?_))))));rintro _ rfl;refine A6 (B2 Z) Z (H3 (D5 TySz.out Z Z Z Z Z Z) (B0 ?_));refine k1 (k2 ?_);refine A7 (A6 (A8 Z Z) Z (A6 (A8 Z Z) Z (A6 (D8 Z Z (by omega)) Z (C8 (y7 g (k+5) (by omega) (by omega)) Z Z Z ?_))));rintro _ rfl;refine A6 (gC Z Z (by omega)) Z (A6 (J1 Z Z) Z (B0 ?_));refine k1 ?_;refine B5 rfl (fun C=>?_) (fun C=>?_)
  ·refine k6 (k7 (k8 Z (k1 ?_)));refine A7 (A6 (A8 Z Z) Z (A6 (D8 Z Z (by omega)) Z (A6 (A9 Z Z) Z (B0 ?_))));refine k1 ?_;exact⟨(i+1,A),⟨w,by dsimp only;omega,q,by dsimp only;rw[D];exact v.trans (List.sublist_append_left _ _),y,z⟩,by dsimp only;omega,(Sees.of ⟨B1 rfl,B1 rfl,B1 rfl,B1 rfl,B1 rfl,B1 rfl,B1 rfl,trivial⟩ ⟨rfl,trivial⟩)⟩
  ·refine k5 (k1 ?_);refine A7 (A6 (A8 Z Z) Z (A6 (H0 Z Z Z) Z (A6 (D2 (c:=Q4) (ys:=[⟨f.Path,aM f.Blob g (k+7)⟩]) (D6 Z Z Z Z G1) Z Z Z) Z (D3 (L2 Z Z Z (.pure _ _ _ _) (by (simp only[VD,VI];omega)) Z) Z (A6 (A9 Z Z) Z (B0 ?_))))));refine k4 (k1 ?_);refine A7 (A6 (A8 Z Z) Z (A6 (D8 Z Z (by omega)) Z (A6 (A9 Z Z) Z (B0 ?_))));refine k1 ?_;refine⟨(i+1,A++[⟨f.Path,aM f.Blob g (k+7)⟩]),⟨w,by rw[VF,List.length_singleton];omega,fun x d=>?_,by dsimp only;rw[D,WC];exact v.append (List.Sublist.refl _),fun x d=>?_,fun x d=>?_⟩,by dsimp only;omega,(Sees.of ⟨B1 rfl,B1 rfl,B1 rfl,B1 rfl,B1 rfl,B1 rfl,B1 rfl,trivial⟩ ⟨rfl,trivial⟩)⟩
   ·rcases VG.1 d with d | d
    ·exact q x d
    ·rw[List.mem_singleton.1 d];exact⟨G,by dsimp only;omega⟩
   ·rcases VG.1 d with d | d
    ·exact y x d
    ·rw[List.mem_singleton.1 d];dsimp only;omega
   ·rcases VG.1 d with d | d
    ·exact z x d
    ·rw[List.mem_singleton.1 d];exact CP F g (k+7)
 ·refine k5 (k1 ?_);refine A7 (A6 (A8 Z Z) Z (A6 (H0 Z Z Z) Z (A6 (D2 (c:=Q4) (ys:=[f]) (D6 Z Z Z Z G1) Z Z Z) Z (D3 (L2 Z Z Z (.pure _ _ _ _) (by (simp only[VD,VI];omega)) Z) Z (A6 (A9 Z Z) Z (B0 ?_))))));refine k4 (k1 ?_);refine A7 (A6 (A8 Z Z) Z (A6 (D8 Z Z (by omega)) Z (A6 (A9 Z Z) Z (B0 ?_))));refine k1 ?_;refine⟨(i+1,A++[f]),⟨w,by rw[VF,List.length_singleton];omega,fun x d=>?_,by dsimp only;rw[D,WC];exact v.append (List.Sublist.refl _),fun x d=>?_,fun x d=>?_⟩,by dsimp only;omega,(Sees.of ⟨B1 rfl,B1 rfl,B1 rfl,B1 rfl,B1 rfl,B1 rfl,B1 rfl,trivial⟩ ⟨rfl,trivial⟩)⟩
  ·rcases VG.1 d with d | d
   ·exact q x d
   ·rw[List.mem_singleton.1 d];exact⟨G,by omega⟩
  ·rcases VG.1 d with d | d
   ·exact y x d
   ·rw[List.mem_singleton.1 d];omega
  ·rcases VG.1 d with d | d
   ·exact z x d
   ·rw[List.mem_singleton.1 d];exact F
end Go.Proofs.YtbflhoahmmfkmaaGreatDoor
