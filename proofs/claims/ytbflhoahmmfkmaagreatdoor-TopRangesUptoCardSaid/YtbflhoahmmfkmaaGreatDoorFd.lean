/- Walks of the program's functions. -/
import Derived.Test.YtbflhoahmmfkmaaGreatDoorFc
set_option linter.all false
namespace Go.Proofs.YtbflhoahmmfkmaaGreatDoor
open Go Go.AL
set_option maxRecDepth 100000
set_option maxHeartbeats 2000000
def gP(l:List Int):Str:=x8 (l.map fun c=>[c])
structure DoArm (g:Graph) (c:Cmd) (out:Str) (e:Int):Prop where
 log:c.Kind=1->∃l:List Int,l.length<=1000/\out=gP l/\FnOk Tryz.prog 17 [H4 g,O6 [c.A]] (fun rs=>rs=[O6 l,E8 e])
 diff:c.Kind=3->FnOk Tryz.prog 35 [H4 g,dA c] (fun rs=>rs=[I3 out,E8 e])
 merge:c.Kind=4->FnOk Tryz.prog 36 [H4 g,dA c] (fun rs=>rs=[I3 out,E8 e])
 lit:c.Kind=5->∃l:List Int,l.length<=1000/\out=gP l/\FnOk Tryz.prog 24 [H4 g,E8 c.A,I3 c.Text] (fun rs=>rs=[O6 l,E8 e])
 lines:c.Kind=7->FnOk Tryz.prog 38 [H4 g,dA c] (fun rs=>rs=[I3 out,E8 e])
 blame:c.Kind=8->FnOk Tryz.prog 39 [H4 g,dA c] (fun rs=>rs=[I3 out,E8 e])
 bases:c.Kind=9->∃l:List Int,l.length<=1000/\out=gP l/\FnOk Tryz.prog 23 [H4 g,E8 c.A,E8 c.B] (fun rs=>rs=[O6 l,E8 e])
theorem DV(g:Graph)(c:Cmd)(t:Str)(e:Int)(h:FewT g)(H:N1 g=0)(z:c.Text.length<=1048576)(I:(jZ c).2=0)(C:T6 g c.A)(G:c.Kind=3\/c.Kind=9->T6 g c.B)(R:1<=c.Kind/\c.Kind<=9/\c.Kind≠2/\c.Kind≠6)(p:DoArm g c t e) :
  FnOk Tryz.prog 11 [H4 g,dA c] (fun rs=>rs=[I3 t,E8 e]):=by
 have D:=gO g h;rw[H]at D;have E:=II c z;rw[I]at E;refine FnOk.intro Tryz.func11 (by decide) Z Z Z Z ?_;refine k2 ?_;refine A7 (D6 (j1 3 Z Z Z) Z (A6 (A9 Z Z) Z (A6 (A9 Z Z) Z (B0 ?_))));refine k1 (k2 (k2 ?_));refine A7 (A6 (A8 Z Z) Z (D1 (D) Z Z Z ?_));rintro _ rfl;refine A6 (A9 Z Z) Z (B0 ?_);refine k1 (k2 ?_);refine A7 (A6 (A8 Z Z) Z (A6 (N5 Z Z) Z (B0 ?_)));refine k1 ?_;refine B9 rfl (fun i=>?_) (fun i=>?_)
 ·exact absurd rfl (A0 i)
 refine k5 (k1 (k2 (k2 ?_)));refine A7 (A6 (F1 Z Z Z) Z (D1 (E) Z Z Z ?_));rintro _ rfl;refine A6 (A8 Z Z) Z (A6 (B7 Z Z) Z (A6 (B7 Z Z) Z (A6 (A9 Z Z) Z (A6 (A9 Z Z) Z (B0 ?_)))));refine k1 (k2 ?_);refine A7 (A6 (A8 Z Z) Z (A6 (N5 Z Z) Z (B0 ?_)));refine k1 ?_;refine B9 rfl (fun i=>?_) (fun i=>?_)
 ·exact absurd rfl (A0 i)
 refine k5 (k1 (k2 ?_));refine A7 (A6 (B1 Z) Z (A6 (B2 Z Z Z) Z (A6 (K4 Z Z) Z (A6 (A8 Z Z) Z (B6 Z Z Z Z (fun j=>by rw[j];exact B1 Z) ?_)))));refine B6 Z Z Z Z (fun j=>by rw[j];exact B2 Z Z Z) ?_;refine B6 Z Z Z Z (fun j=>by rw[j];exact K4 Z Z) ?_;refine A6 (C6 Z (fun h=>by first | rfl | (rw[h];rfl)) (fun h=>by first | rfl | (rw[h];rfl))) Z ?_;refine A6 (A9 Z Z) Z (B0 ?_);refine Y9 [(0,E3 Commit 3 H3 g),(3,.s (.one (.ref 3 0))),(9,R6 (decide (c.Kind=3\/c.Kind=9)))] [(3,.box (lW c))] (by rw[<-or_pick];exact (Sees.of ⟨B4 rfl,B4 rfl,B4 rfl,trivial⟩ ⟨rfl,trivial⟩)) ?_;refine k2 (k2 ?_);refine A7 (A6 (A8 Z Z) Z (A6 (B1 Z) Z (A6 (B2 Z Z Z) Z (D1 (mY g c.A) Z Z Z ?_))));rintro _ rfl;refine A6 (N2 Z) Z (A6 (A8 Z Z) Z (B6 Z Z Z Z (fun j=>by rw[j];exact A8 Z Z) ?_));refine B6 Z Z Z Z (fun j=>by rw[j];exact A8 Z Z) ?_;refine l5 Z Z Z (.gd (.val _)) Z (fun j=>by obtain⟨k,m⟩:=M4 j;(try rw[k]);(try rw[m]);exact A8 Z Z) ?_;refine l5 Z Z Z (.gd (.val _)) Z (fun j=>by obtain⟨k,m⟩:=M4 j;(try rw[k]);(try rw[m]);exact B1 Z) ?_;refine l5 Z Z Z (.gd (.val _)) Z (fun j=>by obtain⟨k,m⟩:=M4 j;(try rw[k]);(try rw[m]);exact B2 Z Z Z) ?_;refine l5 Z Z Z (.gd (.val _)) Z (fun j=>by have J:=j;(try simp at J);obtain⟨k,m⟩:=M4 j;(try rw[k]);(try rw[m]);exact I4 (mY g c.B) Z Z) ?_;refine l5 Z Z Z (.gd (.val _)) Z (fun j=>by obtain⟨k,m⟩:=M4 j;(try rw[k]);(try rw[m]);exact N2 Z) ?_;refine B6 Z Z Z Z (fun j=>by rw[j];exact C6 Z (fun h=>by first | rfl | (rw[h];rfl)) (fun h=>by first | rfl | (rw[h];rfl))) ?_;refine A6 (C6 Z (fun h=>by first | rfl | (rw[h];rfl)) (fun h=>by first | rfl | (rw[h];rfl))) Z ?_;refine B0 ?_;refine k1 ?_;refine B9 rfl (fun i=>?_) (fun i=>?_)
 ·exfalso;revert i;by_cases y:c.Kind=3\/c.Kind=9
  ·simp[C,G y,y]
  ·simp[C,y]
 refine Y9 [(0,E3 Commit 3 H3 g),(3,.s (.one (.ref 3 0)))] [(3,.box (lW c))] (Sees.of ⟨B4 rfl,B4 rfl,trivial⟩ ⟨rfl,trivial⟩) ?_;refine k5 (k1 (k2 (k2 ?_)));refine A7 (A6 (B1 Z) Z (A6 (B2 Z Z Z) Z (B0 ?_)));refine k1 (k3 (k2 ?_));refine A7 (A6 (K4 Z Z) Z (A6 (A9 Z Z) Z (B0 ?_)));refine k1 ?_;refine B9 rfl (fun i=>?_) (fun i=>?_)
 ·obtain⟨l,u,w,q⟩:=p.log (A0 i);rw[w];refine k2 ?_;refine A7 (A6 (A8 Z Z) Z (A6 (B1 Z) Z (A6 (B2 Z Z Z) Z (A6 (D9 (c:=G1) (ys:=[c.A]) (D8 Z Z Z Z H5) Z Z Z) Z (D1 (q) Z Z Z ?_)))));rintro _ rfl;refine A6 (B7 Z Z) Z (A6 (B7 Z Z) Z (D1 (fO l e u) Z Z Z ?_));rintro _ rfl;refine A6 (B7 Z Z) Z (A6 (B7 Z Z) Z (A6 (A9 Z Z) Z (A6 (A9 Z Z) Z (B0 ?_))));refine k1 (I9 (W5 (N4 ?_)));exact C2 (rs:=[I3 (gP l),E8 e]) (U1 rfl rfl rfl rfl rfl) rfl
 refine k2 ?_;refine A7 (A6 (K4 Z Z) Z (A6 (A9 Z Z) Z (B0 ?_)));refine k1 ?_;refine B9 rfl (fun i=>?_) (fun i=>?_)
 ·have:=A0 i;omega
 refine k2 ?_;refine A7 (A6 (K4 Z Z) Z (A6 (A9 Z Z) Z (B0 ?_)));refine k1 ?_;refine B9 rfl (fun i=>?_) (fun i=>?_)
 ·have q:=p.diff (A0 i);refine k2 ?_;refine A7 (A6 (A8 Z Z) Z (A6 (F1 Z Z Z) Z (D1 (q) Z Z Z ?_)));rintro _ rfl;refine A6 (B7 Z Z) Z (A6 (B7 Z Z) Z (A6 (A9 Z Z) Z (A6 (A9 Z Z) Z (B0 ?_))));refine k1 (I9 (W5 (N4 ?_)));exact C2 (rs:=[I3 t,E8 e]) (U1 rfl rfl rfl rfl rfl) rfl
 refine k2 ?_;refine A7 (A6 (K4 Z Z) Z (A6 (A9 Z Z) Z (B0 ?_)));refine k1 ?_;refine B9 rfl (fun i=>?_) (fun i=>?_)
 ·have q:=p.merge (A0 i);refine k2 ?_;refine A7 (A6 (A8 Z Z) Z (A6 (F1 Z Z Z) Z (D1 (q) Z Z Z ?_)));rintro _ rfl;refine A6 (B7 Z Z) Z (A6 (B7 Z Z) Z (A6 (A9 Z Z) Z (A6 (A9 Z Z) Z (B0 ?_))));refine k1 (I9 (W5 (N4 ?_)));exact C2 (rs:=[I3 t,E8 e]) (U1 rfl rfl rfl rfl rfl) rfl
 refine k2 ?_;refine A7 (A6 (K4 Z Z) Z (A6 (A9 Z Z) Z (B0 ?_)));refine k1 ?_;refine B9 rfl (fun i=>?_) (fun i=>?_)
 ·obtain⟨l,u,w,q⟩:=p.lit (A0 i);rw[w];refine k2 ?_;refine A7 (A6 (A8 Z Z) Z (A6 (B1 Z) Z (A6 (B2 Z Z Z) Z (A6 (B1 Z) Z (A6 (B2 Z Z Z) Z (D1 (q) Z Z Z ?_))))));rintro _ rfl;refine A6 (B7 Z Z) Z (A6 (B7 Z Z) Z (D1 (fO l e u) Z Z Z ?_));rintro _ rfl;refine A6 (B7 Z Z) Z (A6 (B7 Z Z) Z (A6 (A9 Z Z) Z (A6 (A9 Z Z) Z (B0 ?_))));refine k1 (I9 (W5 (N4 ?_)));exact C2 (rs:=[I3 (gP l),E8 e]) (U1 rfl rfl rfl rfl rfl) rfl
 refine k2 ?_;refine A7 (A6 (K4 Z Z) Z (A6 (A9 Z Z) Z (B0 ?_)));refine k1 ?_;refine B9 rfl (fun i=>?_) (fun i=>?_)
 ·have:=A0 i;omega
 refine k2 ?_;refine A7 (A6 (K4 Z Z) Z (A6 (A9 Z Z) Z (B0 ?_)));refine k1 ?_;refine B9 rfl (fun i=>?_) (fun i=>?_)
 ·have q:=p.lines (A0 i);refine k2 ?_;refine A7 (A6 (A8 Z Z) Z (A6 (F1 Z Z Z) Z (D1 (q) Z Z Z ?_)));rintro _ rfl;refine A6 (B7 Z Z) Z (A6 (B7 Z Z) Z (A6 (A9 Z Z) Z (A6 (A9 Z Z) Z (B0 ?_))));refine k1 (I9 (W5 (N4 ?_)));exact C2 (rs:=[I3 t,E8 e]) (U1 rfl rfl rfl rfl rfl) rfl
 refine k2 ?_;refine A7 (A6 (K4 Z Z) Z (A6 (A9 Z Z) Z (B0 ?_)));refine k1 ?_;refine B9 rfl (fun i=>?_) (fun i=>?_)
 ·have q:=p.blame (A0 i);refine k2 ?_;refine A7 (A6 (A8 Z Z) Z (A6 (F1 Z Z Z) Z (D1 (q) Z Z Z ?_)));rintro _ rfl;refine A6 (B7 Z Z) Z (A6 (B7 Z Z) Z (A6 (A9 Z Z) Z (A6 (A9 Z Z) Z (B0 ?_))));refine k1 (I9 (W5 (N4 ?_)));exact C2 (rs:=[I3 t,E8 e]) (U1 rfl rfl rfl rfl rfl) rfl
 rename_i K L M N O P Q;have F:c.Kind=9:=by
  have:=A1 i;have:=A1 K;have:=A1 L;have:=A1 M;have:=A1 N;have:=A1 O;have:=A1 P;have:=A1 Q;omega
 obtain⟨l,u,w,q⟩:=p.bases F;rw[w];refine k5 (k2 ?_);refine A7 (A6 (A8 Z Z) Z (A6 (B1 Z) Z (A6 (B2 Z Z Z) Z (A6 (B1 Z) Z (A6 (B2 Z Z Z) Z (D1 (q) Z Z Z ?_))))));rintro _ rfl;refine A6 (B7 Z Z) Z (A6 (B7 Z Z) Z (D1 (fO l e u) Z Z Z ?_));rintro _ rfl;refine A6 (B7 Z Z) Z (A6 (B7 Z Z) Z (A6 (A9 Z Z) Z (A6 (A9 Z Z) Z (B0 ?_))));refine k1 (I9 ?_);exact C2 (rs:=[I3 (gP l),E8 e]) (U1 rfl rfl rfl rfl rfl) rfl
theorem AN(g:Graph)(a:Str)(c:Cmd)(j:Int)(i:Str)(q:Int)(y:a.length<=65536)(x:i.length<=16777216)(v:FnOk Tryz.prog 101 [I3 a] (fun rs=>rs=[dA c,E8 j]))
  (t:j=0->FnOk Tryz.prog 11 [H4 g,dA c] (fun rs=>rs=[I3 i,E8 q])) :
  FnOk Tryz.prog 54 [H4 g,I3 a] (fun rs=>rs=[I3 (fV a i (if j=0 then q else j))]):=by
 obtain⟨o,d⟩:∃o:Str,o=if j=0 then i else []:=⟨_,rfl⟩
 obtain⟨f,b⟩:∃f:Int,f=if j=0 then q else j:=⟨_,rfl⟩
 obtain⟨n,e⟩:∃n:Str,n=if f≠0 then yQ f else o:=⟨_,rfl⟩
 have w:=r5 f;have p:o.length<=16777216:=by
  rw[d];split
  ·exact x
  ·simp
 have r:n.length<=16777216:=by
  rw[e];split
  ·unfold yQ;simp only[WX,WW,XD];omega
  ·exact p
 have m:fV a i f=[62,32]++a++[10]++n:=by
  unfold fV;rw[e];by_cases h:f≠0
  ·rw[A4 h,A4 h]
  ·rw[A5 h,A5 h];have:j=0:=by
    apply Classical.byContradiction;intro s;rw[b,A5 s]at h;exact h s
   rw[d,A4 this]
 rw[<-b,m];refine FnOk.intro Tryz.func54 (by decide) Z Z Z Z ?_;refine k2 ?_;refine A7 (A6 (A9 Z Z) Z (B0 ?_));refine k1 (k2 ?_);refine A7 (A6 (A8 Z Z) Z (D1 (v) Z Z Z ?_));rintro _ rfl;refine A6 (A8 Z Z) Z (A6 (B7 Z Z) Z (A6 (B7 Z Z) Z (D6 (I1 5 Z) Z (F7 (C1 TySz.out Z Z Z Z Z Z) (A6 (A9 Z Z) Z (B0 ?_))))));refine k1 (k2 ?_);refine A7 (A6 (A9 Z Z) Z (B0 ?_));refine k1 (k2 (k2 ?_));refine A7 (A6 (A8 Z Z) Z (A6 (K4 Z Z) Z (B0 ?_)));refine k1 ?_;refine bF [(1,P2 a),(7,P2 o),(6,C7 f)] [] ?_ ?_
 ·skip;refine B9 rfl (fun l=>?_) (fun l=>?_)
  ·have k:j=0:=A0 l;have u:=t k;rw[A4 k]at d b;subst d b;skip;refine A7 (A6 (A8 Z Z) Z (A6 (F1 Z Z Z) Z (D1 (u) Z Z Z ?_)));rintro _ rfl;refine A6 (A8 Z Z) Z (A6 (B7 Z Z) Z (A6 (B7 Z Z) Z (A6 (A9 Z Z) Z (A6 (A9 Z Z) Z (B0 ?_)))));refine k1 ?_;exact Sees.of ⟨B4 rfl,B4 rfl,B4 rfl,trivial⟩ trivial
  ·have k:¬j=0:=A1 l;rw[A5 k]at d b;subst d b;refine k5 (k1 ?_);exact Sees.of ⟨B4 rfl,B4 rfl,B4 rfl,trivial⟩ trivial
 refine k2 (k2 ?_);refine A7 (A6 (A8 Z Z) Z (A6 (N5 Z Z) Z (B0 ?_)));refine k1 ?_;refine bF [(1,P2 a),(7,P2 n)] [] ?_ ?_
 ·skip;refine B9 rfl (fun l=>?_) (fun l=>?_)
  ·have k:f≠0:=A0 l;rw[A4 k]at e;rw[e];skip;refine A7 (A6 (A8 Z Z) Z (D1 (p7 f) Z Z Z ?_));rintro _ rfl;refine A6 (K8 Z Z (by (simp;omega))) Z (A6 (K8 Z Z (by (simp;omega))) Z (A6 (A9 Z Z) Z (B0 ?_)));refine k1 ?_;exact Sees.of ⟨B4 rfl,B4 rfl,trivial⟩ trivial
  ·have k:¬f≠0:=A1 l;rw[A5 k]at e;rw[e];refine k5 (k1 ?_);exact Sees.of ⟨B4 rfl,B4 rfl,trivial⟩ trivial
 refine k2 ?_;refine A7 (A6 (A8 Z Z) Z (A6 (K8 Z Z (by (simp;omega))) Z (A6 (K8 Z Z (by (simp;omega))) Z (A6 (A8 Z Z) Z (A6 (K8 Z Z (by (simp;omega))) Z (A6 (A9 Z Z) Z (B0 ?_)))))));refine k1 (I9 ?_);exact C2 (rs:=[I3 ([62,32]++a++[10]++n)]) (J5 rfl rfl rfl) rfl
theorem MO{gf:Fr}{ob:Obs}{c:Str}{a:TC}(d:C5 ob 700=some (.tbx 109 [a,.buf 701 UInt8 1 CP c])) :
  AL.Met Tryz.prog 55 [.one (.ref 700 0)] gf ob [] (fun rs ob'=>rs=[.one (.p (.v (.int .i64 c.length)))]/\ob'=ob):=by
 refine AL.Met.intro Tryz.func55 (by decide) Z Z Z ?_;refine k2 ?_;refine A7 (A6 (A9 Z Z) Z (B0 ?_));refine k1 (k2 ?_);refine A7 (A6 (A8 Z Z) Z (A6 (B5 Z) Z (A6 (B1 Z) Z (A6 (fC Z d Z) Z (A6 (F0 Z (.buf _ _ _ _ _)) Z (A6 (A9 Z Z) Z (B0 ?_)))))));refine k1 (I9 ?_);exact I6 (X2 rfl rfl) (by repeat (first | exact C3 | refine C4 rfl ?_ | refine F8 _ ?_)) (fun _ _ h=>h) ⟨rfl,rfl⟩
def MP:Bool->TC
 | false=>.p (.v (.pointer none))
 | true=>.ref 700 0
theorem OY(b:Bool):MP b=.p (.v (.pointer none))\/MP b=.ref 700 0:=by cases b<;>simp[MP]
def cF(b:List Str)(i:Nat):Str:=(b.take i).flatten
theorem AO{a:List Str}{i:Nat}{o:Str}(h:a[i]?=some o):cF a (i+1)=cF a i++o:=by
 unfold cF;rw[List.take_add_one,h];simp
theorem rH(a:List Str)(i:Nat):(cF a i).length<=a.flatten.length:=by
 unfold cF
 conv=>rhs;rw[<-YH i a,YL,WX]
 omega
theorem OZ(g:Graph)(s:Str)(m c:List Str)(h:FewT g)(L:N1 g=0)(B:s.length<=536870912)(E:sW s=(m,0))(H:c.length=m.length)(K:∀(i:Nat) (d o:Str),m[i]?=some d->c[i]?=some o->FnOk Tryz.prog 54 [H4 g,I3 d] (fun rs=>rs=[I3 o]))
  (I:c.flatten.length<=16777216) (O:m.length<=1000):FnOk Tryz.prog 21 [H4 g,I3 s] (fun rs=>rs=[I3 c.flatten,E8 0]):=by
 have F:=gO g h;rw[L]at F;have G:=IP s B;rw[E]at G;have w:c.flatten=cF c c.length:=by unfold cF;rw[XF]
 rw[w];refine FnOk.intro Tryz.func21 (by decide) Z Z Z Z ?_;refine k2 ?_;refine A7 (A6 (A9 Z Z) Z (A6 (A9 Z Z) Z (B0 ?_)));refine k1 (k2 (k2 ?_));refine A7 (A6 (A8 Z Z) Z (D1 (F) Z Z Z ?_));rintro _ rfl;refine A6 (A9 Z Z) Z (B0 ?_);refine k1 (k2 ?_);refine A7 (A6 (A8 Z Z) Z (A6 (N5 Z Z) Z (B0 ?_)));refine k1 ?_;refine B9 rfl (fun j=>?_) (fun j=>?_)
 ·exact absurd rfl (A0 j)
 refine k5 (k1 (k2 ?_));refine A7 (A6 (A8 Z Z) Z (D1 (G) Z Z Z ?_));rintro _ rfl;refine A6 (A8 Z Z) Z (A6 (B7 Z Z) Z (A6 (B7 Z Z) Z (A6 (A9 Z Z) Z (A6 (A9 Z Z) Z (B0 ?_)))));refine k1 (k2 (k2 ?_));refine A7 (A6 (A8 Z Z) Z (A6 (N5 Z Z) Z (B0 ?_)));refine k1 ?_;refine B9 rfl (fun j=>?_) (fun j=>?_)
 ·exact absurd rfl (A0 j)
 refine k5 (k1 (k2 ?_));refine A7 (D6 (zF 700 Z) Z (B0 ?_));refine k1 (k2 (k2 ?_));refine G8 (WI 701 UInt8 1 CP 5 (kb:=700) (o:=1) Z Z Z) ?_;refine A7 (A6 (A8 Z Z) Z (A6 (F0 Z (.pure _ _ _ _)) Z (A6 (A8 Z Z) Z (B0 ?_))));refine k1 (k3 ?_);refine E4 (X:=Nat×Bool) (fun x=>([(0,E3 Commit 3 H3 g),(9,.s (.one (.ref 700 0))),(25,E3 Str 1 R8 m),(26,C7 m.length),(27,C7 x.1)],[(700,.tbx 109 [MP x.2,.buf 701 UInt8 1 CP (cF c x.1)]),(701,.spare (cF c x.1).length 1 5)])) (fun x=>x.1<=m.length) (fun x=>m.length-x.1) (0,false) (Nat.zero_le _) (Sees.of ⟨B4 rfl,B4 rfl,B4 rfl,B4 rfl,B4 rfl,trivial⟩ ⟨rfl,rfl,trivial⟩) ?_;rintro⟨i,a⟩ N;dsimp only at N ⊢;have ha:=OY a;have M:=rH c i;refine k2 ?_;refine A7 (A6 (F3 Z Z) Z (B0 ?_));refine k1 (k2 ?_);refine B9 rfl (fun j=>?_) (fun j=>?_);rotate_left
 ·have C:i=c.length:=by have v:=A1 j;(try dsimp only at v);omega
  rw[C];refine k6 (k2 ?_);refine A7 (uJ (k:=700) (k':=701) ⟨_,rfl,rfl,rfl⟩ iN Z Z Z Z Z ha Z (A6 (A9 Z Z) Z (A6 (A9 Z Z) Z (B0 ?_))));refine k1 (I9 ?_);exact C2 (rs:=[I3 (cF c c.length),E8 0]) (U1 rfl rfl rfl rfl rfl) rfl
 have z:i<m.length:=by have v:=A0 j;(try dsimp only at v);omega
 obtain⟨d,q⟩:∃d,d=m[i]:=⟨_,rfl⟩
 have J:m[i]?=some d:=by rw[q];exact WT z
 obtain⟨o,P⟩:∃o,o=c[i]:=⟨_,rfl⟩
 have A:c[i]?=some o:=by rw[P];exact WT (by omega)
 have D:=K i d o J A;have B:=AO A;have y:=rH c (i+1);rw[B,WX]at y;refine k5 (k1 (k2 (k3 (k2 ?_))));refine A7 (A6 (B8 Z (.pure _ _ _ _) Z (by omega) J) Z (A6 (C0 Z Z) Z (A6 (A9 Z Z) Z (B0 ?_))));refine k1 (k2 ?_);refine A7 (A6 (A8 Z Z) Z (A6 (A8 Z Z) Z (D1 (D) Z Z Z ?_)));rintro _ rfl;refine Z7 (eO ⟨⟨MP a,ha,rfl⟩,rfl⟩ (by omega)) Z Z Z ?_;rintro _ _ ⟨rfl,rfl⟩;refine B0 ?_;refine k1 (k2 ?_);refine A7 (Z7 (MO Z) Z Z Z ?_);rintro _ _ ⟨rfl,rfl⟩;refine A6 (P5 Z Z) Z (B0 ?_);refine k1 ?_;refine B9 rfl (fun j=>?_) (fun j=>?_)
 ·exfalso;have v:=A0 j;rw[WX]at v;omega
 refine k5 (k4 (k1 ?_));refine A7 (A6 (D5 Z Z (by omega)) Z (A6 (A8 Z Z) Z (B0 ?_)));refine k1 ?_;exact⟨(i+1,true),z,by dsimp only;omega,(by dsimp only;rw[B];exact (Sees.of ⟨B4 rfl,B4 rfl,B4 rfl,B4 rfl,B4 rfl,trivial⟩ ⟨rfl,rfl,trivial⟩))⟩
theorem check12_good{p:Patch}(b:¬dS p≠0):nI p.Hunks=true:=by
 by_cases a:nI p.Hunks=true
 ·exact a
 ·exfalso;apply b;unfold dS;split
  ·decide
  ·rw[A4 (by simpa using a)];decide
theorem X4(n:Int):FnOk Tryz.prog 242 [E8 n] (fun b=>b=[H6 (decide (J2 n))]):=by
 refine FnOk.intro Tryz.func242 (by decide) Z Z Z Z ?_;refine k2 ?_;refine A7 (A6 (A9 Z Z) Z (B0 ?_));refine k1 (k2 ?_);refine A7 (A6 (A8 Z Z) Z (A6 (U7 Z Z) Z (A6 (A8 Z Z) Z (B6 Z Z Z Z (fun a=>by rw[a];exact A8 Z Z) ?_))));refine B6 Z Z Z Z (fun a=>by rw[a];exact kL Z Z) ?_;refine A6 (C6 Z (fun h=>by first | rfl | (rw[h];rfl)) (fun h=>by first | rfl | (rw[h];rfl))) Z ?_;refine A6 (A9 Z Z) Z (B0 ?_);refine k1 (I9 ?_);refine C2 (J5 Z Z Z) ?_;simp only[and_pick];rfl
theorem IQ(l:List Change)(m n:Int)(K:l.length<=1073741824):FnOk Tryz.prog 185 [pChanges l,E8 m,E8 n] (fun rs=>rs=[E8 (cK l m n)]):=by
 refine FnOk.intro Tryz.func185 (by decide) Z Z Z Z ?_;refine k2 ?_;refine A7 (A6 (A9 Z Z) Z (B0 ?_));refine k1 (k2 (k2 ?_));refine A7 (A6 (A8 Z Z) Z (D1 (X4 m) Z Z Z ?_));rintro _ rfl;refine A6 (N2 Z) Z (A6 (A8 Z Z) Z (B6 Z Z Z Z (fun a=>by rw[a];exact A8 Z Z) ?_));refine B6 Z Z Z Z (fun a=>by have o:=a;(try simp at o);rw[a];exact I4 (X4 n) Z Z) ?_;refine B6 Z Z Z Z (fun a=>by rw[a];exact N2 Z) ?_;refine A6 (C6 Z (fun h=>by first | rfl | (rw[h];rfl)) (fun h=>by first | rfl | (rw[h];rfl))) Z ?_;refine B0 ?_;refine k1 ?_;refine B9 rfl (fun d=>?_) (fun d=>?_)
 ·simp only[<-decide_not,or_pick]at d;have h:¬J2 m\/¬J2 n:=A0 d;refine k2 ?_;refine A7 (A6 (A9 Z Z) Z (B0 ?_));refine k1 (I9 (N4 ?_));exact C2 (J5 rfl rfl rfl) (by rw[cK,A4 h])
 simp only[<-decide_not,or_pick]at d;have h:¬(¬J2 m\/¬J2 n):=A1 d;have C:0<=m/\m<=4096:=by by_cases C:J2 m;exact C;exact absurd (.inl C) h
 have D:0<=n/\n<=4096:=by by_cases D:J2 n;exact D;exact absurd (.inr D) h
 refine k5 (k1 (k2 ?_));refine A7 (A6 (A9 Z Z) Z (A6 (A9 Z Z) Z (B0 ?_)));refine k1 (k2 (k2 ?_));refine A7 (A6 (A8 Z Z) Z (A6 (F0 Z (.pure _ _ _ _)) Z (A6 (A8 Z Z) Z (B0 ?_))));refine k1 (k3 ?_);refine E4 (X:=Nat×Int×Int) (fun x=>([(1,C7 m),(2,C7 n),(7,C7 x.2.1),(8,C7 x.2.2),(20,E3 Change 4 changeC l),(21,C7 l.length),(22,C7 x.1)],[])) (fun x=>x.1<=l.length/\K7 0 0 0 l m n=K7 x.1 x.2.1 x.2.2 (l.drop x.1) m n/\0<=x.2.1/\x.2.1<=8192/\0<=x.2.2/\x.2.2<=8192) (fun x=>l.length-x.1) (0,0,0) ⟨Nat.zero_le _,rfl,by decide,by decide,by decide,by decide⟩ (Sees.of ⟨B4 rfl,B4 rfl,B4 rfl,B4 rfl,B4 rfl,B4 rfl,B4 rfl,trivial⟩ trivial) ?_;rintro⟨k,i,j⟩ ⟨J,g,H,z,I,A⟩;dsimp only at J g H z I A ⊢;refine k2 ?_;refine A7 (A6 (F3 Z Z) Z (B0 ?_));refine k1 (k2 ?_);refine B9 rfl (fun d=>?_) (fun d=>?_)
 ·have y:k<l.length:=by have:=A0 d;omega
  have F:l[k]?=some l[k]:=by simp[y]
  obtain⟨c,G⟩:∃c,c=l[k]:=⟨_,rfl⟩
  rw[XA y,K7]at g;rw[<-G]at F g;refine k5 (k1 (k2 (k3 (k2 ?_))));refine A7 (A6 (A8 Z Z) Z (A6 (B8 Z (.pure _ _ _ _) Z (by omega) F) Z (A6 (G7 Z Z) Z (D6 (I1 10 Z) Z (A6 (A9 Z Z) Z (F7 (C1 TySz.out Z Z Z Z Z Z) (B0 ?_)))))));refine k1 (k2 (k2 ?_));refine A7 (A6 (B1 Z) Z (A6 (B2 Z Z Z) Z (D1 (X4 c.Old) Z Z Z ?_)));rintro _ rfl;refine A6 (N2 Z) Z (A6 (A8 Z Z) Z (B6 Z Z Z Z (fun a=>by rw[a];exact B1 Z) ?_));refine B6 Z Z Z Z (fun a=>by rw[a];exact B2 Z Z Z) ?_;refine B6 Z Z Z Z (fun a=>by have o:=a;(try simp at o);rw[a];exact I4 (X4 c.OldLen) Z Z) ?_;refine B6 Z Z Z Z (fun a=>by rw[a];exact N2 Z) ?_;refine A6 (C6 Z (fun h=>by first | rfl | (rw[h];rfl)) (fun h=>by first | rfl | (rw[h];rfl))) Z ?_;refine A6 (A8 Z Z) Z (B6 Z Z Z Z (fun a=>by rw[a];exact B1 Z) ?_);refine B6 Z Z Z Z (fun a=>by rw[a];exact B2 Z Z Z) ?_;refine B6 Z Z Z Z (fun a=>by have o:=a;(try simp at o);rw[a];exact I4 (X4 c.New) Z Z) ?_;refine B6 Z Z Z Z (fun a=>by rw[a];exact N2 Z) ?_;refine A6 (C6 Z (fun h=>by first | rfl | (rw[h];rfl)) (fun h=>by first | rfl | (rw[h];rfl))) Z ?_;refine A6 (A8 Z Z) Z (B6 Z Z Z Z (fun a=>by rw[a];exact B1 Z) ?_);refine B6 Z Z Z Z (fun a=>by rw[a];exact B2 Z Z Z) ?_;refine B6 Z Z Z Z (fun a=>by have o:=a;(try simp at o);rw[a];exact I4 (X4 c.NewLen) Z Z) ?_;refine B6 Z Z Z Z (fun a=>by rw[a];exact N2 Z) ?_;refine A6 (C6 Z (fun h=>by first | rfl | (rw[h];rfl)) (fun h=>by first | rfl | (rw[h];rfl))) Z ?_;refine A6 (A8 Z Z) Z (B6 Z Z Z Z (fun a=>by rw[a];exact B1 Z) ?_);refine B6 Z Z Z Z (fun a=>by rw[a];exact B2 Z Z Z) ?_;refine B6 Z Z Z Z (fun a=>by rw[a];exact B1 Z) ?_;refine B6 Z Z Z Z (fun a=>by rw[a];exact B2 Z Z Z) ?_;refine B6 Z Z Z Z (fun a=>by have o:=a;(try simp at o);simp[J2]at o;rw[a];exact D5 Z Z (by omega)) ?_;refine B6 Z Z Z Z (fun a=>by rw[a];exact K4 Z Z) ?_;refine A6 (C6 Z (fun h=>by first | rfl | (rw[h];rfl)) (fun h=>by first | rfl | (rw[h];rfl))) Z ?_;refine B0 ?_;refine k1 ?_;refine B9 rfl (fun d=>?_) (fun d=>?_)
  ·simp only[<-decide_not,or_pick,and_pick]at d;have v:=A0 d;have hb:sA k i j c:=.inl (.inl (.inl v));refine k2 ?_;refine A7 (A6 (A9 Z Z) Z (B0 ?_));refine k1 (I9 (N4 (W5 (N4 (N4 (W5 (N4 ?_)))))));exact C2 (J5 rfl rfl rfl) (by rw[cK,A5 ‹¬(¬J2 m\/¬J2 n)›,g,A3 (fun w=>w hb)];rfl)
  simp only[<-decide_not,or_pick,and_pick]at d;have v:=A1 d;have L:(0<=c.Old/\c.Old<=4096)/\(0<=c.OldLen/\c.OldLen<=4096)/\(0<=c.New/\c.New<=4096)/\(0<=c.NewLen/\c.NewLen<=4096)/\c.OldLen+c.NewLen≠0:=by
   by_cases E:J2 c.Old<;>by_cases a2:J2 c.OldLen<;>by_cases a3:J2 c.New<;>by_cases a4:J2 c.NewLen<;>simp[E,a2,a3,a4]at v;exact⟨E,a2,a3,a4,v⟩
  refine k5 (k1 (k2 ?_));refine A7 (A6 (B1 Z) Z (A6 (B2 Z Z Z) Z (A6 (A8 Z Z) Z (A6 (O5 Z Z (by omega)) Z (A6 (A9 Z Z) Z (B0 ?_))))));refine k1 (k2 (k2 ?_));refine A7 (A6 (A8 Z Z) Z (A6 (B1 Z) Z (A6 (B2 Z Z Z) Z (A6 (A8 Z Z) Z (A6 (O5 Z Z (by omega)) Z (A6 (N5 Z Z) Z (A6 (A8 Z Z) Z (B6 Z Z Z Z (fun a=>by rw[a];exact A8 Z Z) ?_))))))));refine B6 Z Z Z Z (fun a=>by rw[a];exact A8 Z Z) ?_;refine B6 Z Z Z Z (fun a=>by rw[a];exact zE Z Z) ?_;refine B6 Z Z Z Z (fun a=>by rw[a];exact F3 Z Z) ?_;refine A6 (C6 Z (fun h=>by first | rfl | (rw[h];rfl)) (fun h=>by first | rfl | (rw[h];rfl))) Z ?_;refine B0 ?_;refine k1 ?_;have f:∀b:Int,(c.Old-i<if (1:Int)<(k:Int) then 1 else (k:Int))↔(c.Old<i\/(0<(k:Int)/\c.Old=i)):=by intro _;split<;>omega
  refine B9 rfl (fun d=>?_) (fun d=>?_)
  ·simp only[or_pick]at d;have s:=A0 d;have hb:sA k i j c:=by
    rcases s with s | s
    ·exact .inl (.inl (.inr s))
    ·rcases (f 0).1 s with t | t
     ·exact .inl (.inr t)
     ·exact .inr t
   refine k2 ?_;refine A7 (A6 (A9 Z Z) Z (B0 ?_));refine k1 (I9 (N4 (W5 (N4 (N4 (W5 (N4 ?_)))))));exact C2 (J5 rfl rfl rfl) (by rw[cK,A5 ‹¬(¬J2 m\/¬J2 n)›,g,A3 (fun w=>w hb)];rfl)
  ·simp only[or_pick]at d;have s:=A1 d;have hb:¬sA k i j c:=by
    rintro (((q | q) | q) | q)
    ·exact v q
    ·exact s (.inl q)
    ·exact s (.inr ((f 0).2 (.inl q)))
    ·exact s (.inr ((f 0).2 (.inr q)))
   rw[A2 hb,Bool.true_and]at g;refine k5 (k1 ?_);refine D7 (by kernel_rfl) (by kernel_rfl) (B3 (B1 Z) Z Z (B3 (B2 Z Z Z) Z Z (B3 (B1 Z) Z Z (B3 (B2 Z Z Z) Z Z (B3 (D5 Z Z (by omega)) Z Z (B3 (B1 Z) Z Z (B3 (B2 Z Z Z) Z Z (B3 (B1 Z) Z Z (B3 (B2 Z Z Z) Z Z (B3 (D5 Z Z (by omega)) Z Z (B3 (A9 Z Z) Z Z (B3 (A9 Z Z) Z Z (M5 ?_)))))))))))));refine k4 (k1 ?_);refine A7 (A6 (D5 Z Z (by omega)) Z (A6 (A8 Z Z) Z (B0 ?_)));refine k1 ?_;exact⟨(k+1,c.Old+c.OldLen,c.New+c.NewLen),⟨by dsimp only;omega,g,by dsimp only;omega,by dsimp only;omega,by dsimp only;omega,by dsimp only;omega⟩,by dsimp only;omega,Sees.of ⟨B4 rfl,B4 rfl,B4 rfl,B4 rfl,B4 rfl,B4 rfl,B4 rfl,trivial⟩ trivial⟩
 ·have B:k=l.length:=by have:=A1 d;omega
  rw[B,XO (Nat.le_refl _),K7]at g;refine k6 (k2 (k2 ?_));refine A7 (A6 (A8 Z Z) Z (A6 (A8 Z Z) Z (A6 (O5 Z Z (by omega)) Z (A6 (A8 Z Z) Z (A6 (A8 Z Z) Z (A6 (O5 Z Z (by omega)) Z (A6 (N5 Z Z) Z (A6 (A8 Z Z) Z (B6 Z Z Z Z (fun a=>by rw[a];exact A8 Z Z) ?_)))))))));refine B6 Z Z Z Z (fun a=>by rw[a];exact A8 Z Z) ?_;refine B6 Z Z Z Z (fun a=>by rw[a];exact F3 Z Z) ?_;refine A6 (C6 Z (fun h=>by first | rfl | (rw[h];rfl)) (fun h=>by first | rfl | (rw[h];rfl))) Z ?_;refine B0 ?_;refine k1 ?_;refine B9 rfl (fun d=>?_) (fun d=>?_)
  ·have t:=A0 (or_pick.symm.trans d);refine k2 ?_;refine A7 (A6 (A9 Z Z) Z (B0 ?_));refine k1 (I9 (N4 ?_));exact C2 (J5 rfl rfl rfl) (by rw[cK,A5 h,g,A3 (fun w=>w t)];rfl)
  ·have t:=A1 (or_pick.symm.trans d);refine k5 (k1 (k2 ?_));refine A7 (A6 (A9 Z Z) Z (B0 ?_));refine k1 (I9 ?_);exact C2 (J5 rfl rfl rfl) (by rw[cK,A5 h,g,A2 t];rfl)
theorem IR{gf:Fr}{ob:Obs}(p:List Span):AL.Met Tryz.prog 292 [.one (.p (.list Span 2 spanC p))] gf ob [] (fun b ob'=>b=[.one (.full Span 2 spanC p)]/\ob'=ob):=by
 refine AL.Met.intro Tryz.func292 (by decide) Z Z Z ?_;refine k2 ?_;refine A7 (A6 (A9 Z Z) Z (B0 ?_));refine k1 (k2 ?_);refine A7 (A6 (A8 Z Z) Z (A6 (A8 Z Z) Z (A6 (F0 Z (.pure _ _ _ _)) Z (A6 (A8 Z Z) Z (A6 (F0 Z (.pure _ _ _ _)) Z (A6 (DC Z (.pure _ _ _ _) Z Z (by omega) (by omega) (by first | rfl | omega)) Z ?_))))));refine A6 (A9 Z Z) Z (B0 ?_);rw[show p.take (p.length:Int).toNat=p by simp];refine k1 (I9 ?_);exact I6 (X2 rfl rfl) (by repeat (first | exact C3 | refine C4 rfl ?_ | refine F8 _ ?_)) (fun _ _ h=>h) ⟨rfl,rfl⟩
def bI(i j:Int):List Span->List Change
 | []=>[]
 | x::r=>(if x.From>i\/x.To>j then [⟨i,x.From-i,j,x.To-j⟩] else [])++bI (x.From+1) (x.To+1) r
theorem oF(m n:Int):∀(p:List Span) (i j:Int),bI i j (p++[⟨m,n⟩])=V4 i j p m n
 | [],i,j=>by simp[bI,V4]
 | x::r,i,j=>by
  rw[XQ,bI,V4,oF m n r]
theorem tT(p:List Span)(m n:Int)(T:p.length<=536870912)(I:-1099511627776<=m/\m<=1099511627776)(J:-1099511627776<=n/\n<=1099511627776)(hb:∀s∈p,-1099511627776<=s.From/\s.From<=1099511627776 /\ -1099511627776<=s.To/\s.To<=1099511627776) :
  FnOk Tryz.prog 243 [pSpans p,E8 m,E8 n] (fun S=>S=[pChanges (fP p m n)]):=by
 refine FnOk.intro Tryz.func243 (by decide) Z Z Z Z ?_;refine k2 ?_;refine A7 (A6 (A9 Z Z) Z (B0 ?_));refine k1 (k2 ?_);refine A7 (D6 (y6 7 _ changeC Z) Z (B0 ?_));refine k1 (k2 ?_);refine A7 (A6 (A9 Z Z) Z (A6 (A9 Z Z) Z (B0 ?_)));refine k1 (k2 (k2 ?_));refine A7 (A6 (A8 Z Z) Z (Z7 (IR p) Z Z Z ?_));rintro _ _ ⟨rfl,rfl⟩;refine A6 (A8 Z Z) Z (A6 (A8 Z Z) Z (A6 (H1 Z) Z (A6 (D9 (c:=spanC) (ys:=[⟨m,n⟩]) (D8 Z Z Z Z H5) Z Z Z) Z (D6 (tQ 18 Z Z (.pure _ _ _ _) (by simp;omega) (by simp) Z) Z (A6 (F0 Z (.buf _ _ _ _ _)) Z (A6 (A8 Z Z) Z (B0 ?_)))))));obtain⟨q,B⟩:∃q,q=p++[(⟨m,n⟩:Span)]:=⟨_,rfl⟩
 have R:q.length=p.length+1:=by rw[B];simp
 have G:∀s∈q,-1099511627776<=s.From/\s.From<=1099511627776 /\ -1099511627776<=s.To/\s.To<=1099511627776:=by
  intro s L;rw[B]at L;rcases WZ.1 L with h | h
  ·exact hb s h
  ·simp at h;subst h;exact⟨I.1,I.2,J.1,J.2⟩
 have A:fP p m n=bI 0 0 q:=by rw[B,oF];rfl
 rw[<-B];refine k1 (k3 ?_);refine E4 (X:=Nat×Int×Int×List Change) (fun x=>([(7,.s (.one (.buf 7 Change 4 changeC x.2.2.2))),(8,C7 x.2.1),(9,C7 x.2.2.1),(18,.s (.one (.buf 18 Span 2 spanC q))),(19,C7 q.length),(20,C7 x.1)],[(7,.spare x.2.2.2.length 4 253)])) (fun x=>x.1<=q.length/\x.2.2.2++bI x.2.1 x.2.2.1 (q.drop x.1)=fP p m n/\(-1099511627777<=x.2.1/\x.2.1<=1099511627777)/\(-1099511627777<=x.2.2.1/\x.2.2.1<=1099511627777)/\x.2.2.2.length<=x.1) (fun x=>q.length-x.1) (0,0,0,[]) ⟨Nat.zero_le _,A.symm,by decide,by decide,Nat.le_refl _⟩ (Sees.of ⟨B4 rfl,B4 rfl,B4 rfl,B4 rfl,B4 rfl,B4 rfl,trivial⟩ ⟨rfl,trivial⟩) ?_;rintro⟨k,i,j,H⟩ ⟨Q,w,O,P,F⟩;dsimp only at Q w O P F ⊢;refine k2 ?_;refine A7 (A6 (F3 Z Z) Z (B0 ?_));refine k1 (k2 ?_);refine B9 rfl (fun l=>?_) (fun l=>?_)
 ·have z:k<q.length:=by have:=A0 l;omega
  have M:q[k]?=some q[k]:=by simp[z]
  have D:=G _ (WY z);obtain⟨c,N⟩:∃c,c=q[k]:=⟨_,rfl⟩
  rw[XA z,bI]at w;rw[<-N]at M w D;refine k5 (k1 (k2 (k3 (k2 ?_))));refine A7 (A6 (B8 Z (.buf _ _ _ _ _) Z (by omega) M) Z (A6 (G7 Z Z) Z (D6 (I1 11 Z) Z (F7 (C1 TySz.out Z Z Z Z Z Z) (B0 ?_)))));refine Q8 ?_;obtain⟨g,d⟩:∃g,g=H++(if c.From>i\/c.To>j then [⟨i,c.From-i,j,c.To-j⟩] else []):=⟨_,rfl⟩
  have K:g.length<=k+1:=by rw[d,WX];split<;>simp<;>omega
  rw[<-XH,<-d]at w;refine qI [(7,.s (.one (.buf 7 Change 4 changeC g))),(8,C7 i),(9,C7 j),(11,.s (.one (.ref 11 0))),(18,.s (.one (.buf 18 Span 2 spanC q))),(19,C7 q.length),(20,C7 k)] [(7,.spare g.length 4 253),(11,.box [.p (.v (.int .i64 c.From)),.p (.v (.int .i64 c.To))])] ?_ ?_
  ·refine k2 ?_;refine A7 (A6 (B1 Z) Z (A6 (B2 Z Z Z) Z (A6 (A8 Z Z) Z (A6 (P5 Z Z) Z (A6 (A8 Z Z) Z (B6 Z Z Z Z (fun y=>by rw[y];exact B1 Z) ?_))))));refine B6 Z Z Z Z (fun y=>by rw[y];exact B2 Z Z Z) ?_;refine B6 Z Z Z Z (fun y=>by rw[y];exact A8 Z Z) ?_;refine B6 Z Z Z Z (fun y=>by rw[y];exact P5 Z Z) ?_;refine A6 (C6 Z (fun h=>by first | rfl | (rw[h];rfl)) (fun h=>by first | rfl | (rw[h];rfl))) Z ?_;refine B0 ?_;refine k1 ?_;refine B9 rfl (fun l=>?_) (fun l=>?_)
   ·simp only[or_pick]at l;have C:=A0 l;rw[A4 C]at d;skip;refine A7 (A6 (A8 Z Z) Z (A6 (A8 Z Z) Z (A6 (B1 Z) Z (A6 (B2 Z Z Z) Z (A6 (A8 Z Z) Z (A6 (O5 Z Z (by omega)) Z (A6 (A8 Z Z) Z (A6 (B1 Z) Z (A6 (B2 Z Z Z) Z (A6 (A8 Z Z) Z (A6 (O5 Z Z (by omega)) Z (A6 (H1 Z) Z (A6 (D9 (c:=changeC) (ys:=[⟨i,c.From-i,j,c.To-j⟩]) (D8 Z Z Z Z H5) Z Z Z) Z (D6 (N6 Z Z Z (.pure _ _ _ _) (by (simp only[WW,XD];omega)) Z) Z (A6 (A9 Z Z) Z (B0 ?_))))))))))))))));refine k1 ?_;rw[d];exact Sees.of ⟨B4 rfl,B4 rfl,B4 rfl,B4 rfl,B4 rfl,B4 rfl,B4 rfl,trivial⟩ ⟨rfl,rfl,trivial⟩
   ·simp only[or_pick]at l;have C:=A1 l;rw[A5 C,YB]at d;refine k5 (k1 ?_);rw[d];exact Sees.of ⟨B4 rfl,B4 rfl,B4 rfl,B4 rfl,B4 rfl,B4 rfl,B4 rfl,trivial⟩ ⟨rfl,rfl,trivial⟩
  ·skip;refine D7 (by kernel_rfl) (by kernel_rfl) (B3 (B1 Z) Z Z (B3 (B2 Z Z Z) Z Z (B3 (D5 Z Z (by omega)) Z Z (B3 (B1 Z) Z Z (B3 (B2 Z Z Z) Z Z (B3 (D5 Z Z (by omega)) Z Z (B3 (A9 Z Z) Z Z (B3 (A9 Z Z) Z Z (M5 ?_)))))))));refine k4 (k1 ?_);refine A7 (A6 (D5 Z Z (by omega)) Z (A6 (A8 Z Z) Z (B0 ?_)));refine k1 ?_;exact⟨(k+1,c.From+1,c.To+1,g),⟨by dsimp only;omega,w,⟨by dsimp only;omega,by dsimp only;omega⟩,⟨by dsimp only;omega,by dsimp only;omega⟩,by dsimp only;omega⟩,by dsimp only;omega,Sees.of ⟨B4 rfl,B4 rfl,B4 rfl,B4 rfl,B4 rfl,B4 rfl,trivial⟩ ⟨rfl,trivial⟩⟩
 ·have E:k=q.length:=by have:=A1 l;omega
  rw[E,XO (Nat.le_refl _),bI,YB]at w;refine k6 (k2 ?_);refine A7 (A6 (A8 Z Z) Z (A6 (A9 Z Z) Z (B0 ?_)));refine k1 (I9 ?_);exact C2 (J5 rfl rfl rfl) (by rw[<-w])
theorem AP{m n:Int}:∀{p:List Span} {i j:Int},Asc m n i j p->∀k (h:k<p.length),(k=0->i<=p[k].From/\j<=p[k].To)/\(∀a:0<k,p[k-1].From<p[k].From/\p[k-1].To<p[k].To)/\p[k].From<m/\p[k].To<n
 | [],_,_,_,k,h=>by simp at h
 | x::r,i,j,ha,k,h=>by
  obtain⟨f,g,b⟩:=ha;cases k with
  | zero=>have:=b.le;exact⟨fun _=>⟨f,g⟩,fun a=>absurd a (by omega),by show x.From<m;omega,by show x.To<n;omega⟩
  | succ k =>
   obtain⟨g1,c,d,e⟩:=AP b k (by simpa using h);refine⟨fun a=>absurd a (by omega),fun _=>?_,by simpa using d,by simpa using e⟩;cases k with
   | zero =>
    obtain⟨q,s⟩:=g1 rfl;have l:0<r.length:=by simpa using h
    show x.From<r[0].From/\x.To<r[0].To;omega
   | succ k=>simpa using c (by omega)
theorem tU(p:List Span)(m n:Int)(R:J2 m)(S:J2 n)(ha:Asc m n 0 0 p)(U:p.length<=536870912) :
  FnOk Tryz.prog 180 [pSpans p,E8 m,E8 n] (fun Y=>Y=[pChanges (fP p m n),E8 0]):=by
 obtain⟨C,D⟩:=R;obtain⟨E,G⟩:=S;have H:=AP ha;have hb:∀s∈p,0<=s.From/\s.From<=4096/\0<=s.To/\s.To<=4096:=by
  have I:∀(p:List Span) (i j:Int),Asc m n i j p->0<=i->0<=j->∀s∈p,0<=s.From/\s.From<=4096/\0<=s.To/\s.To<=4096:=by
   intro p;induction p with
   | nil=>intro _ _ _ _ _ s z;simp at z
   | cons x r W =>
    rintro i j ⟨h1,h2,J⟩ h4 h5 s z;have:=J.le;rcases XB.1 z with rfl | z
    ·omega
    ·exact W _ _ J (by omega) (by omega) s z
  exact I p 0 0 ha (by omega) (by omega)
 refine FnOk.intro Tryz.func180 (by decide) Z Z Z Z ?_;refine k2 ?_;refine A7 (A6 (A9 Z Z) Z (A6 (A9 Z Z) Z (B0 ?_)));refine k1 (k2 (k2 ?_));refine A7 (A6 (A8 Z Z) Z (D1 (X4 m) Z Z Z ?_));rintro _ rfl;refine A6 (N2 Z) Z (A6 (A8 Z Z) Z (B6 Z Z Z Z (fun d=>by rw[d];exact A8 Z Z) ?_));refine B6 Z Z Z Z (fun d=>by have V:=d;(try simp at V);rw[d];exact I4 (X4 n) Z Z) ?_;refine B6 Z Z Z Z (fun d=>by rw[d];exact N2 Z) ?_;refine A6 (C6 Z (fun h=>by first | rfl | (rw[h];rfl)) (fun h=>by first | rfl | (rw[h];rfl))) Z ?_;refine B0 ?_;refine k1 ?_;refine B9 rfl (fun w=>?_) (fun w=>?_)
 ·exfalso;simp only[<-decide_not,or_pick]at w;have h:¬J2 m\/¬J2 n:=A0 w;rcases h with h | h
  ·exact h ⟨C,D⟩
  ·exact h ⟨E,G⟩
 refine Y9 [(0,E3 Span 2 spanC p),(1,C7 m),(2,C7 n)] [] (Sees.of ⟨B4 rfl,B4 rfl,B4 rfl,trivial⟩ trivial) ?_;refine k5 (k1 (k2 ?_));refine A7 (A6 (H1 Z) Z (D6 (I1 8 Z) Z (F7 (C1 TySz.out Z Z Z Z Z Z) (B0 ?_))));refine k1 (k2 (k2 ?_));refine A7 (A6 (A8 Z Z) Z (A6 (F0 Z (.pure _ _ _ _)) Z (A6 (A8 Z Z) Z (B0 ?_))));refine k1 (k3 ?_);obtain⟨a,g⟩:∃a:Nat->Span,a=fun k=>if k=0 then ⟨-1,-1⟩ else p.getD (k-1) ⟨0,0⟩:=⟨_,rfl⟩
 refine E4 (X:=Nat) (fun k=>([(0,E3 Span 2 spanC p),(1,C7 m),(2,C7 n),(8,.s (.one (.ref 8 0))),(20,E3 Span 2 spanC p),(21,C7 p.length),(22,C7 k)],[(8,.box [.p (.v (.int .i64 (a k).From)),.p (.v (.int .i64 (a k).To))])])) (fun k=>k<=p.length) (fun k=>p.length-k) 0 (Nat.zero_le _) ?_ ?_
 ·rw[show a 0=⟨-1,-1⟩ by rw[g];rfl];exact Sees.of ⟨B4 rfl,B4 rfl,B4 rfl,B4 rfl,B4 rfl,B4 rfl,B4 rfl,trivial⟩ ⟨rfl,trivial⟩
 intro k Q;dsimp only at Q ⊢;refine k2 ?_;refine A7 (A6 (F3 Z Z) Z (B0 ?_));refine k1 (k2 ?_);refine B9 rfl (fun w=>?_) (fun w=>?_)
 ·have y:k<p.length:=by have:=A0 w;omega
  have K:p[k]?=some p[k]:=by simp[y]
  obtain⟨g1,M,N,O⟩:=H k y;have q:a (k+1)=p[k]:=by rw[g];simp[y]
  have l:(a k).From<p[k].From/\(a k).To<p[k].To:=by
   rw[g];by_cases A:k=0
   ·have:=g1 A;simp only[A,if_true]at this ⊢;omega
   ·have:=M (by omega);simp only[A,if_false];have e:p.getD (k-1) ⟨0,0⟩=p[k-1]:=by simp[show k-1<p.length by omega]
    rw[e];exact this
  obtain⟨c,P⟩:∃c,c=p[k]:=⟨_,rfl⟩
  rw[<-P]at K N O q l;obtain⟨L,B⟩:∃L,L=a k:=⟨_,rfl⟩
  rw[<-B]at l ⊢;refine k5 (k1 (k2 (k3 (k2 ?_))));refine A7 (A6 (B8 Z (.pure _ _ _ _) Z (by omega) K) Z (A6 (G7 Z Z) Z (D6 (I1 10 Z) Z (F7 (C1 TySz.out Z Z Z Z Z Z) (B0 ?_)))));refine k1 (k2 (k2 ?_));refine A7 (A6 (B1 Z) Z (A6 (B2 Z Z Z) Z (A6 (B1 Z) Z (A6 (B2 Z Z Z) Z (A6 (kL Z Z) Z (A6 (A8 Z Z) Z (B6 Z Z Z Z (fun d=>by rw[d];exact B1 Z) ?_)))))));refine B6 Z Z Z Z (fun d=>by rw[d];exact B2 Z Z Z) ?_;refine B6 Z Z Z Z (fun d=>by rw[d];exact A8 Z Z) ?_;refine B6 Z Z Z Z (fun d=>by rw[d];exact U7 Z Z) ?_;refine A6 (C6 Z (fun h=>by first | rfl | (rw[h];rfl)) (fun h=>by first | rfl | (rw[h];rfl))) Z ?_;refine A6 (A8 Z Z) Z (B6 Z Z Z Z (fun d=>by rw[d];exact B1 Z) ?_);refine B6 Z Z Z Z (fun d=>by rw[d];exact B2 Z Z Z) ?_;refine B6 Z Z Z Z (fun d=>by rw[d];exact B1 Z) ?_;refine B6 Z Z Z Z (fun d=>by rw[d];exact B2 Z Z Z) ?_;refine B6 Z Z Z Z (fun d=>by rw[d];exact kL Z Z) ?_;refine A6 (C6 Z (fun h=>by first | rfl | (rw[h];rfl)) (fun h=>by first | rfl | (rw[h];rfl))) Z ?_;refine A6 (A8 Z Z) Z (B6 Z Z Z Z (fun d=>by rw[d];exact B1 Z) ?_);refine B6 Z Z Z Z (fun d=>by rw[d];exact B2 Z Z Z) ?_;refine B6 Z Z Z Z (fun d=>by rw[d];exact A8 Z Z) ?_;refine B6 Z Z Z Z (fun d=>by rw[d];exact U7 Z Z) ?_;refine A6 (C6 Z (fun h=>by first | rfl | (rw[h];rfl)) (fun h=>by first | rfl | (rw[h];rfl))) Z ?_;refine B0 ?_;refine k1 ?_;refine B9 rfl (fun w=>?_) (fun w=>?_)
  ·exfalso;simp only[or_pick]at w;have:=A0 w;omega
  ·refine k5 (k1 ?_);refine A7 (A6 (F1 Z Z Z) Z (F7 (C1 TySz.out Z Z Z Z Z Z) (B0 ?_)));refine k4 (k1 ?_);refine A7 (A6 (D5 Z Z (by omega)) Z (A6 (A8 Z Z) Z (B0 ?_)));refine k1 ?_;refine⟨k+1,by omega,by omega,?_⟩;rw[q];exact Sees.of ⟨B4 rfl,B4 rfl,B4 rfl,B4 rfl,B4 rfl,B4 rfl,B4 rfl,trivial⟩ ⟨rfl,trivial⟩
 ·refine k6 (k2 ?_);refine A7 (A6 (A8 Z Z) Z (A6 (A8 Z Z) Z (A6 (A8 Z Z) Z (D1 (tT p m n U (by omega) (by omega) (fun s z=>by have:=hb s z;omega)) Z Z Z ?_))));rintro _ rfl;refine A6 (A9 Z Z) Z (A6 (A9 Z Z) Z (B0 ?_));refine k1 (I9 ?_);exact C2 (U1 rfl rfl rfl rfl rfl) rfl
theorem lE{l:List Int}{i:Nat}(h:i<l.length):l[i]?=some (l.getD i 0):=by simp[h]
theorem AQ(a b:List Int):FnOk Tryz.prog 179 [O6 a,O6 b] (fun d=>d=[H6 (decide ((a.length:Int)<=4096/\(b.length:Int)<=4096))]):=by
 refine FnOk.intro Tryz.func179 (by decide) Z Z Z Z ?_;refine k2 ?_;refine A7 (A6 (A9 Z Z) Z (B0 ?_));refine k1 (k2 ?_);refine A7 (A6 (A8 Z Z) Z (A6 (F0 Z (.pure _ _ _ _)) Z (A6 (kL Z Z) Z (A6 (A8 Z Z) Z (B6 Z Z Z Z (fun c=>by rw[c];exact A8 Z Z) ?_)))));refine B6 Z Z Z Z (fun c=>by rw[c];exact F0 Z (.pure _ _ _ _)) ?_;refine B6 Z Z Z Z (fun c=>by rw[c];exact kL Z Z) ?_;refine A6 (C6 Z (fun h=>by first | rfl | (rw[h];rfl)) (fun h=>by first | rfl | (rw[h];rfl))) Z ?_;refine A6 (A9 Z Z) Z (B0 ?_);refine k1 (I9 ?_);exact C2 (J5 rfl rfl rfl) (by simp only[and_pick])
theorem tV(a b:List Int)(ha:a.length<=1073741824):FnOk Tryz.prog 244 [O6 a,O6 b] (fun s=>s=[E8 (T8 a b)]):=by
 refine FnOk.intro Tryz.func244 (by decide) Z Z Z Z ?_;refine k2 ?_;refine A7 (A6 (A9 Z Z) Z (B0 ?_));refine k1 (k2 ?_);refine A7 (A6 (A9 Z Z) Z (B0 ?_));refine k1 (k2 (k3 ?_));refine E4 (X:=Nat) (fun k=>([(0,E3 Int 1 G1 a),(1,E3 Int 1 G1 b),(5,C7 k)],[])) (fun k=>k<=a.length/\k<=b.length/\T8 a b=k+T8 (a.drop k) (b.drop k)) (fun k=>a.length-k) 0 ⟨Nat.zero_le _,Nat.zero_le _,by simp⟩ (Sees.of ⟨B4 rfl,B4 rfl,B4 rfl,trivial⟩ trivial) ?_;rintro k ⟨q,l,i⟩;dsimp only at q l i ⊢;refine k2 (k2 ?_);refine D7 (by kernel_rfl) (by kernel_rfl) (B3 (A8 Z Z) Z Z (B3 (A8 Z Z) Z Z (B3 (F0 Z (.pure _ _ _ _)) Z Z (B3 (F3 Z Z) Z Z (B3 (A8 Z Z) Z Z (E7 Z Z (fun c=>by rw[c];exact A8 Z Z) Z Z ?_))))));refine E7 Z Z (fun c=>by rw[c];exact A8 Z Z) Z Z ?_;refine E7 Z Z (fun c=>by rw[c];exact F0 Z (.pure _ _ _ _)) Z Z ?_;refine E7 Z Z (fun c=>by rw[c];exact F3 Z Z) Z Z ?_;refine B3 (C6 Z (fun h=>by first | rfl | (rw[h];rfl)) (fun h=>by first | rfl | (rw[h];rfl))) Z Z ?_;refine B3 (A8 Z Z) Z Z (E7 Z Z (fun c=>by rw[c];exact A8 Z Z) Z Z ?_);refine E7 Z Z (fun c=>by rw[c];exact A8 Z Z) Z Z ?_;refine E7 Z Z (fun c=>by have m:=c;(try simp at m);rw[c];exact B8 Z (.pure _ _ _ _) Z (by omega) (lE (by omega))) Z Z ?_;refine E7 Z Z (fun c=>by rw[c];exact C0 Z Z) Z Z ?_;refine E7 Z Z (fun c=>by rw[c];exact A8 Z Z) Z Z ?_;refine E7 Z Z (fun c=>by rw[c];exact A8 Z Z) Z Z ?_;refine E7 Z Z (fun c=>by have m:=c;(try simp at m);rw[c];exact B8 Z (.pure _ _ _ _) Z (by omega) (lE (by omega))) Z Z ?_;refine E7 Z Z (fun c=>by rw[c];exact C0 Z Z) Z Z ?_;refine E7 Z Z (fun c=>by rw[c];exact K4 Z Z) Z Z ?_;refine B3 (C6 Z (fun h=>by first | rfl | (rw[h];rfl)) (fun h=>by first | rfl | (rw[h];rfl))) Z Z ?_;refine M5 ?_;refine k1 ?_;refine B9 rfl (fun g=>?_) (fun g=>?_)
 ·simp only[and_pick]at g;obtain⟨⟨d,f⟩,j⟩:=A0 g;have d:k<a.length:=by omega
  have f:k<b.length:=by omega
  rw[sJ a b k d f,A4 (by simpa[d,f] using j)]at i;refine k5 (k1 (k3 ?_));refine A7 (A6 (A8 Z Z) Z (A6 (D5 Z Z (by omega)) Z (A6 (A9 Z Z) Z (B0 ?_))));refine k4 (k1 ?_);exact⟨k+1,⟨by omega,by omega,by omega⟩,by omega,Sees.of ⟨B4 rfl,B4 rfl,B4 rfl,trivial⟩ trivial⟩
 ·simp only[and_pick]at g;have h:=A1 g;have o:T8 (a.drop k) (b.drop k)=0:=by
   by_cases n:k<a.length/\k<b.length
   ·obtain⟨d,f⟩:=n;rw[sJ a b k d f,A5];intro j;exact h ⟨⟨by omega,by omega⟩,by simpa[d,f] using j⟩
   ·exact JQ a b k n
  rw[o]at i;refine k6 (k2 ?_);refine A7 (A6 (A8 Z Z) Z (A6 (A9 Z Z) Z (B0 ?_)));refine k1 (I9 ?_);exact C2 (J5 rfl rfl rfl) (by rw[i];rfl)
theorem tW(a b:List Int)(ha:a.length<=4096)(hb:b.length<=4096):FnOk Tryz.prog 245 [O6 a,O6 b] (fun rs=>rs=[UB (flat a b (fun _ _=>true))]):=by
 obtain⟨W,G⟩:∃W,W=b.length+1:=⟨_,rfl⟩
 have B:∀i:Nat,i<=a.length+1->0<=(i:Int)*(W:Int)/\(i:Int)*(W:Int)<=16789506:=by
  intro i U;have V:i*W<=4098*4097:=Nat.mul_le_mul (by omega) (by omega);have Y:((i*W:Nat):Int)=(i:Int)*W:=by push_cast;rfl
  omega
 have d:∀i:Nat,(i:Int)*(W:Int)=((i*W:Nat):Int):=fun i=>by push_cast;rfl
 have H:∀done,(flat a b done).length=(a.length+1)*W:=fun done=>by rw[oQ,G]
 have E:∀i j,dist (a.drop i) (b.drop j)<=8192:=fun i j=>by
  have:=yC (a.drop i) (b.drop j);simp only[XS]at this;omega
 have af:∀i j:Nat,i<=a.length->j<=b.length->i*W+j<(a.length+1)*W:=fun i j U A=>by rw[G];exact (pT U A).1
 refine FnOk.intro Tryz.func245 (by decide) Z Z Z Z ?_;refine k2 ?_;refine A7 (A6 (A9 Z Z) Z (B0 ?_));refine k1 (k2 ?_);refine A7 (A6 (A8 Z Z) Z (A6 (F0 Z (.pure _ _ _ _)) Z (A6 (D5 Z Z (by omega)) Z (A6 (A9 Z Z) Z (B0 ?_)))));refine Q8 ?_;refine Y9 [(0,E3 Int 1 G1 a),(1,E3 Int 1 G1 b),(5,C7 W)] [] (Sees.of ⟨⟨_,rfl,.same _⟩,⟨_,rfl,.same _⟩,⟨_,rfl,.eq (by rw[G];simp)⟩,trivial⟩ trivial) ?_;have aq:=B (a.length+1) (Nat.le_refl _);have S:((a.length:Int)+1)=((a.length+1:Nat):Int):=by omega
 refine k2 ?_;refine A7 (A6 (A8 Z Z) Z (A6 (F0 Z (.pure _ _ _ _)) Z (A6 (D5 Z Z (by omega)) Z (A6 (A8 Z Z) Z (A6 (cO Z Z (by (rw[S];omega))) Z ?_)))));refine D6 (aZ 20 Int jX 0 Z Z (by (rw[S];omega)) (by (rw[S];omega)) (fun _=>by first | exact⟨⟨rfl,rfl⟩,trivial⟩ | exact⟨I5 _ _ _,trivial⟩ | exact⟨I5 _ _ _,⟨rfl,rfl⟩,I5 _ _ _,trivial⟩ | exact⟨⟨rfl,rfl⟩,⟨rfl,rfl⟩,trivial⟩) Z) Z ?_;refine A6 (A9 Z Z) Z (B0 ?_);refine Q8 ?_;refine Y9 [(0,E3 Int 1 G1 a),(1,E3 Int 1 G1 b),(5,C7 W),(6,.s (.one (.mut 20)))] [(20,.arr Int 1 jX (flat a b (fun _ _=>false)))] ?_ ?_
 ·refine Sees.of ⟨⟨_,rfl,.same _⟩,⟨_,rfl,.same _⟩,⟨_,rfl,.same _⟩,⟨_,rfl,.same _⟩,trivial⟩ ⟨?_,trivial⟩;rw[<-JP,S,d,WV,G];rfl
 refine k2 (k2 ?_);refine A7 (A6 (A8 Z Z) Z (A6 (F0 Z (.pure _ _ _ _)) Z (A6 (A8 Z Z) Z (B0 ?_))));refine k1 (k3 ?_);refine E4 (X:=Nat) (fun j=>([(0,E3 Int 1 G1 a),(1,E3 Int 1 G1 b),(5,C7 W),(6,.s (.one (.mut 20))),(22,C7 b.length),(23,C7 j)],[(20,.arr Int 1 jX (flat a b (fun r q=>decide (r=a.length/\q<j))))])) (fun j=>j<=b.length) (fun j=>b.length-j) 0 (Nat.zero_le _) ?_ ?_
 ·rw[show flat a b (fun r q=>decide (r=a.length/\q<0))=flat a b (fun _ _=>false) from dZ fun r q _ _=>.inl (by simp)];exact Sees.of ⟨B4 rfl,B4 rfl,B4 rfl,B4 rfl,B4 rfl,B4 rfl,trivial⟩ ⟨rfl,trivial⟩
 intro j A;dsimp only at A ⊢;refine k2 ?_;refine A7 (A6 (F3 Z Z) Z (B0 ?_));refine k1 (k2 ?_);refine B9 rfl (fun w=>?_) (fun w=>?_)
 ·have ap:j<b.length:=by have:=A0 w;omega
  have ar:=B a.length (by omega);have ao:=af a.length j (Nat.le_refl _) (by omega);have ab:=d a.length;have z:=H (fun r q=>decide (r=a.length/\q<j));have C:(flat a b (fun r q=>decide (r=a.length/\q<j))).set (((a.length:Int)*(W:Int)+(j:Int)).toNat) (IntKind.u16.wrap ((b.length:Int)-j))=flat a b (fun r q=>decide (r=a.length/\q<j+1)):=by
   rw[show ((a.length:Int)*(W:Int)+(j:Int)).toNat=a.length*(b.length+1)+j by rw[ab,G];omega,EY _ (by omega)];refine BC (Nat.le_refl _) (by omega) ?_ (by simp) (fun r q hr hq M=>?_)
   ·rw[XO (Nat.le_refl a.length),dist,XS];omega
   ·rw[decide_eq_decide];omega
  refine k5 (k1 (k2 (k3 (k2 ?_))));refine A7 (A6 (A8 Z Z) Z (A6 (A9 Z Z) Z (B0 ?_)));refine k1 ?_;refine A7 (A6 (A8 Z Z) Z (A6 (A8 Z Z) Z (A6 (F0 Z (.pure _ _ _ _)) Z (A6 (A8 Z Z) Z (A6 (cO Z Z (by omega)) Z (A6 (A8 Z Z) Z (A6 (D5 Z Z (by omega)) Z (A6 (A8 Z Z) Z (A6 (F0 Z (.pure _ _ _ _)) Z (A6 (A8 Z Z) Z (A6 (O5 Z Z (by omega)) Z (A6 (V0 Z) Z (A6 (E2 Z Z Z (by omega) (by (rw[z];omega))) Z ?_)))))))))))));refine F7 (J8 TySz.out Z Z (by (rw[z];omega)) Z Z) ?_;refine B0 ?_;refine k4 (k1 ?_);refine A7 (A6 (D5 Z Z (by omega)) Z (A6 (A8 Z Z) Z (B0 ?_)));refine k1 ?_;refine⟨j+1,by omega,by omega,?_⟩;rw[<-C];exact Sees.of ⟨B4 rfl,B4 rfl,B4 rfl,B4 rfl,B4 rfl,B4 rfl,trivial⟩ ⟨rfl,trivial⟩
 ·have ag:j=b.length:=by have:=A1 w;omega
  subst ag
  rw[show flat a b (fun r q=>decide (r=a.length/\q<b.length))=flat a b (fun r _=>decide (a.length<=r)) from dZ fun r q hr hq=>by
   by_cases h:r=a.length/\q=b.length
   ·right;rw[h.1,h.2,XO (Nat.le_refl _),XO (Nat.le_refl _)];exact lJ []
   ·left;rw[decide_eq_decide];omega]
  refine k6 (k2 (k2 ?_));refine A7 (A6 (A8 Z Z) Z (A6 (F0 Z (.pure _ _ _ _)) Z (A6 (O5 Z Z (by omega)) Z (A6 (A9 Z Z) Z (B0 ?_)))));refine k1 (k3 ?_);refine E4 (X:=Nat) (fun i=>([(0,E3 Int 1 G1 a),(1,E3 Int 1 G1 b),(5,C7 W),(6,.s (.one (.mut 20))),(8,C7 ((i:Int)-1))],[(20,.arr Int 1 jX (flat a b (fun r _=>decide (i<=r))))])) (fun i=>i<=a.length) (fun i=>i) a.length (Nat.le_refl _) (Sees.of ⟨B4 rfl,B4 rfl,B4 rfl,B4 rfl,B4 rfl,trivial⟩ ⟨rfl,trivial⟩) ?_;intro i U;dsimp only at U ⊢;refine k2 (k2 ?_);refine A7 (A6 (A8 Z Z) Z (A6 (U7 Z Z) Z (B0 ?_)));refine k1 ?_;refine B9 rfl (fun w=>?_) (fun w=>?_)
  ·obtain⟨i,rfl⟩:∃r,i=r+1:=⟨i-1,by have:=A0 w;omega⟩
   refine Y9 [(0,E3 Int 1 G1 a),(1,E3 Int 1 G1 b),(5,C7 W),(6,.s (.one (.mut 20))),(8,C7 i)] [(20,.arr Int 1 jX (flat a b (fun r _=>decide (i+1<=r))))] (Sees.of ⟨B4 rfl,B4 rfl,B4 rfl,B4 rfl,TI Z (by first | (simp;done) | (simp;omega)),trivial⟩ ⟨rfl,trivial⟩) ?_;obtain⟨P,T⟩:∃P,P=i*W:=⟨_,rfl⟩
   obtain⟨N,hN⟩:∃N,N=(a.length+1)*W:=⟨_,rfl⟩
   have D:(i:Int)*(W:Int)=(P:Int):=by rw[T];exact d i
   have f:((i:Int)+1)*(W:Int)=(P:Int)+W:=by rw[Int.add_mul,Int.one_mul,D]
   have F:((i:Int)+2)*(W:Int)=(P:Int)+W+W:=by rw[Int.add_mul,D];omega
   have aj:P+W+W<=N:=by
    have V:(i+2)*W<=(a.length+1)*W:=XI _ (by omega);have Y:(i+2)*W=i*W+W+W:=by rw[XV];omega
    omega
   have ai:N<=16789506:=by have:=B (a.length+1) (Nat.le_refl _);have:=d (a.length+1);omega
   have z:∀done,(flat a b done).length=N:=fun done=>by rw[H,hN]
   refine k5 (k1 (k2 (k3 (k2 ?_))));refine D7 (by kernel_rfl) (by kernel_rfl) (B3 (A8 Z Z) Z Z (B3 (A8 Z Z) Z Z (B3 (A8 Z Z) Z Z (B3 (cO Z Z (by (rw[D];omega))) Z Z ?_))));refine B3 (A8 Z Z) Z Z (B3 (D5 Z Z (by omega)) Z Z (B3 (A8 Z Z) Z Z (B3 (cO Z Z (by (rw[f];omega))) Z Z ?_)));refine B3 (fG Z Z Z Z (by (first | (rw[D];omega) | (rw[D,f];omega) | (rw[f,z];omega))) (by (first | (rw[D];omega) | (rw[D,f];omega) | (rw[f,z];omega))) (by (first | (rw[D];omega) | (rw[D,f];omega) | (rw[f,z];omega)))) Z Z ?_;refine B3 (A8 Z Z) Z Z (B3 (A8 Z Z) Z Z (B3 (D5 Z Z (by omega)) Z Z (B3 (A8 Z Z) Z Z (B3 (cO Z Z (by (rw[f];omega))) Z Z ?_))));refine B3 (A8 Z Z) Z Z (B3 (D5 Z Z (by omega)) Z Z (B3 (A8 Z Z) Z Z (B3 (cO Z Z (by (rw[F];omega))) Z Z ?_)));refine B3 (fG Z Z Z Z (by (first | (rw[f];omega) | (rw[f,F];omega) | (rw[F,z];omega))) (by (first | (rw[f];omega) | (rw[f,F];omega) | (rw[F,z];omega))) (by (first | (rw[f];omega) | (rw[f,F];omega) | (rw[F,z];omega)))) Z Z ?_;refine B3 (A9 Z Z) Z Z (B3 (A9 Z Z) Z Z (M5 ?_));refine Q8 ?_;have J:∀j,j<=b.length->(flat a b (fun r q=>decide (i+1<=r\/(r=i/\j<=q))))[P+j]?=some (dist (a.drop i) (b.drop j):Int):=fun j A=>by
    rw[T,G,sH (by omega) A,A4 (by simp)]
   have x:∀j j',j<=b.length->(flat a b (fun r q=>decide (i+1<=r\/(r=i/\j'<=q))))[P+W+j]?=some (dist (a.drop (i+1)) (b.drop j):Int):=fun j j' A=>by
    rw[show P+W+j=(i+1)*(b.length+1)+j by rw[T,G,XV];omega,sH (by omega) A,A4 (by simp)]
   refine Y9 [(0,E3 Int 1 G1 a),(1,E3 Int 1 G1 b),(5,C7 W),(6,.s (.one (.mut 20))),(8,C7 i),(9,.s (.one (.msl 20 1 P W))),(10,.s (.one (.msl 20 1 (P+W) W)))] [(20,.arr Int 1 jX (flat a b (fun r _=>decide (i+1<=r))))] ?_ ?_
   ·refine Sees.of ⟨⟨_,rfl,.same _⟩,⟨_,rfl,.same _⟩,⟨_,rfl,.same _⟩,⟨_,rfl,.same _⟩,⟨_,rfl,.same _⟩,⟨_,rfl,.eq ?_⟩,⟨_,rfl,.eq ?_⟩,trivial⟩ ⟨rfl,trivial⟩
    ·rw[D,f];congr 3<;>omega
    ·rw[f,F];congr 3<;>omega
   have I:∀(done c:Nat->Nat->Bool) (j:Nat) (v:Int),j<=b.length->v=(dist (a.drop i) (b.drop j):Int)->c i j=true->(∀r q,r<=a.length->q<=b.length->¬(r=i/\q=j)->c r q=done r q)->(flat a b done).set (P+j) v=flat a b c:=by
    intro done c j v A hv V Y;rw[T,G];exact BC (by omega) A hv V Y
   have ah:(flat a b (fun r _=>decide (i+1<=r))).set (P+((b.length:Nat):Int).toNat) (IntKind.u16.wrap ((a.length:Int)-i))=flat a b (fun r q=>decide (i+1<=r\/(r=i/\b.length<=q))):=by
    rw[WV,EY _ (by omega)];refine I _ _ _ _ (Nat.le_refl _) ?_ (by simp) (fun r q hr hq M=>?_)
    ·rw[XO (Nat.le_refl b.length),lJ,XS];omega
    ·rw[decide_eq_decide];omega
   refine k2 ?_;refine A7 (A6 (A8 Z Z) Z (A6 (A8 Z Z) Z (A6 (F0 Z (.pure _ _ _ _)) Z (A6 (A8 Z Z) Z (A6 (F0 Z (.pure _ _ _ _)) Z (A6 (A8 Z Z) Z (A6 (O5 Z Z (by omega)) Z (A6 (V0 Z) Z (A6 (S3 Z Z (by omega) (by omega)) Z (F7 (J8 TySz.out Z Z (by (rw[z];omega)) Z Z) ?_))))))))));refine B0 ?_;rw[ah];refine k1 (k2 ?_);refine A7 (A6 (A8 Z Z) Z (A6 (F0 Z (.pure _ _ _ _)) Z (A6 (O5 Z Z (by omega)) Z (A6 (A9 Z Z) Z (B0 ?_)))));refine k1 (k3 ?_);refine E4 (X:=Nat) (fun j=>([(0,E3 Int 1 G1 a),(1,E3 Int 1 G1 b),(5,C7 W),(6,.s (.one (.mut 20))),(8,C7 i),(9,.s (.one (.msl 20 1 P W))),(10,.s (.one (.msl 20 1 (P+W) W))),(11,C7 ((j:Int)-1))],[(20,.arr Int 1 jX (flat a b (fun r q=>decide (i+1<=r\/(r=i/\j<=q)))))])) (fun j=>j<=b.length) (fun j=>j) b.length (Nat.le_refl _) (Sees.of ⟨B4 rfl,B4 rfl,B4 rfl,B4 rfl,B4 rfl,B4 rfl,B4 rfl,B4 rfl,trivial⟩ ⟨rfl,trivial⟩) ?_;intro j A;dsimp only at A ⊢;refine k2 (k2 ?_);refine A7 (A6 (A8 Z Z) Z (A6 (U7 Z Z) Z (B0 ?_)));refine k1 ?_;refine B9 rfl (fun w=>?_) (fun w=>?_)
   ·obtain⟨j,rfl⟩:∃r,j=r+1:=⟨j-1,by have:=A0 w;omega⟩
    have O:a[i]?=some a[i]:=by simp[show i<a.length by omega]
    have R:b[j]?=some b[j]:=by simp[show j<b.length by omega]
    have y:=JH a b i j (by omega) (by omega);have ak:=E i j;have al:=E (i+1) j;have am:=E i (j+1);have an:=E (i+1) (j+1);obtain⟨u,hu⟩:∃u,u=a[i]:=⟨_,rfl⟩
    obtain⟨v,hv⟩:∃v,v=b[j]:=⟨_,rfl⟩
    rw[<-hu]at O y;rw[<-hv]at R y;have C:(flat a b (fun r q=>decide (i+1<=r\/(r=i/\j+1<=q)))).set (P+j) (dist (a.drop i) (b.drop j):Int)=flat a b (fun r q=>decide (i+1<=r\/(r=i/\j<=q))):=I _ _ _ _ (by omega) rfl (by simp) (fun r q hr hq M=>by rw[decide_eq_decide];omega);refine Y9 [(0,E3 Int 1 G1 a),(1,E3 Int 1 G1 b),(5,C7 W),(6,.s (.one (.mut 20))),(8,C7 i),(9,.s (.one (.msl 20 1 P W))),(10,.s (.one (.msl 20 1 (P+W) W))),(11,C7 j)] [(20,.arr Int 1 jX (flat a b (fun r q=>decide (i+1<=r\/(r=i/\j+1<=q)))))] (Sees.of ⟨B4 rfl,B4 rfl,B4 rfl,B4 rfl,B4 rfl,B4 rfl,B4 rfl,TI Z (by first | (simp;done) | (simp;omega)),trivial⟩ ⟨rfl,trivial⟩) ?_;refine LC ?_;refine Q8 ?_;refine qI [(0,E3 Int 1 G1 a),(1,E3 Int 1 G1 b),(5,C7 W),(6,.s (.one (.mut 20))),(8,C7 i),(9,.s (.one (.msl 20 1 P W))),(10,.s (.one (.msl 20 1 (P+W) W))),(11,C7 j)] [(20,.arr Int 1 jX (flat a b (fun r q=>decide (i+1<=r\/(r=i/\j<=q)))))] ?_ ?_
    ·refine k3 (k2 ?_);refine D7 (by kernel_rfl) (by kernel_rfl) (B3 (A8 Z Z) Z Z (B3 (A8 Z Z) Z Z (B3 (B8 Z (.pure _ _ _ _) Z (by omega) O) Z Z (B3 (C0 Z Z) Z Z (B3 (A8 Z Z) Z Z (B3 (A8 Z Z) Z Z (B3 (B8 Z (.pure _ _ _ _) Z (by omega) R) Z Z (B3 (C0 Z Z) Z Z (B3 (K4 Z Z) Z Z (M5 ?_))))))))));refine k1 ?_;refine B9 rfl (fun w=>?_) (fun w=>?_)
     ·rw[A4 (A0 w)]at y;rw[y]at C;have hg:=x (j+1) (j+1) (by omega);have ae:(flat a b (fun r q=>decide (i+1<=r\/(r=i/\j+1<=q))))[P+W+((j:Int)+1).toNat]?=some (dist (a.drop (i+1)) (b.drop (j+1)):Int):=by rw[show ((j:Int)+1).toNat=j+1 by omega];exact hg
      skip;refine A7 (A6 (A8 Z Z) Z (A6 (A8 Z Z) Z (A6 (A8 Z Z) Z (A6 (A8 Z Z) Z (A6 (D5 Z Z (by omega)) Z (A6 (S3 Z Z (by omega) (by omega)) Z (A6 (L1 Z Z ae Z) Z (A6 (S3 Z Z (by omega) (by omega)) Z (F7 (J8 TySz.out Z Z (by (rw[z];omega)) Z Z) ?_)))))))));refine B0 ?_;refine k4 (k1 ?_);rw[show P+((j:Nat):Int).toNat=P+j by omega,C];exact Sees.of ⟨B4 rfl,B4 rfl,B4 rfl,B4 rfl,B4 rfl,B4 rfl,B4 rfl,B4 rfl,trivial⟩ ⟨rfl,trivial⟩
     ·rw[A5 (A1 w)]at y;have ac:=x j (j+1) (by omega);have ad:=J (j+1) (by omega);have K:(flat a b (fun r q=>decide (i+1<=r\/(r=i/\j+1<=q))))[P+W+((j:Nat):Int).toNat]?=some (dist (a.drop (i+1)) (b.drop j):Int):=by rw[WV];exact ac
      have L:(flat a b (fun r q=>decide (i+1<=r\/(r=i/\j+1<=q))))[P+((j:Int)+1).toNat]?=some (dist (a.drop i) (b.drop (j+1)):Int):=by rw[show ((j:Int)+1).toNat=j+1 by omega];exact ad
      have Q:IntKind.u16.wrap ((if (dist (a.drop i) (b.drop (j+1)):Int)<(dist (a.drop (i+1)) (b.drop j):Int) then (dist (a.drop i) (b.drop (j+1)):Int) else (dist (a.drop (i+1)) (b.drop j):Int))+1)=(dist (a.drop i) (b.drop j):Int):=by
       rw[EY _ (by split<;>omega),y];split<;>omega
      skip;refine D7 (by kernel_rfl) (by kernel_rfl) (B3 (A8 Z Z) Z Z (B3 (A8 Z Z) Z Z (B3 (A8 Z Z) Z Z (B3 (A8 Z Z) Z Z (B3 (S3 Z Z (by omega) (by omega)) Z Z (B3 (L1 Z Z K Z) Z Z (B3 (A8 Z Z) Z Z (B3 (A8 Z Z) Z Z (B3 (D5 Z Z (by omega)) Z Z (B3 (S3 Z Z (by omega) (by omega)) Z Z (B3 (L1 Z Z L Z) Z Z (B3 (zE Z Z) Z Z (B3 (kK Z Z) Z Z (B3 (S3 Z Z (by omega) (by omega)) Z Z (uH (J8 TySz.out Z Z (by (rw[z];omega)) Z Z) Z ?_)))))))))))))));refine M5 ?_;refine k4 (k1 ?_);rw[Q,show P+((j:Nat):Int).toNat=P+j by omega,C];exact Sees.of ⟨B4 rfl,B4 rfl,B4 rfl,B4 rfl,B4 rfl,B4 rfl,B4 rfl,B4 rfl,trivial⟩ ⟨rfl,trivial⟩
    ·skip;refine A7 (A6 (A8 Z Z) Z (A6 (O5 Z Z (by omega)) Z (A6 (A9 Z Z) Z (B0 ?_))));refine k1 ?_;exact⟨j,by omega,by omega,Sees.of ⟨B4 rfl,B4 rfl,B4 rfl,B4 rfl,B4 rfl,B4 rfl,B4 rfl,B4 rfl,trivial⟩ ⟨rfl,trivial⟩⟩
   ·obtain rfl:j=0:=by have:=A1 w;omega
    rw[show flat a b (fun r q=>decide (i+1<=r\/(r=i/\0<=q)))=flat a b (fun r _=>decide (i<=r)) from dZ fun r q _ _=>.inl (by rw[decide_eq_decide];omega)];refine k6 (k7 (k7 (k8 Z (k4 (k1 ?_)))));refine A7 (A6 (A8 Z Z) Z (A6 (O5 Z Z (by omega)) Z (A6 (A9 Z Z) Z (B0 ?_))));refine k1 ?_;exact⟨i,by omega,by omega,Sees.of ⟨B4 rfl,B4 rfl,B4 rfl,B4 rfl,B4 rfl,trivial⟩ ⟨rfl,trivial⟩⟩
  ·obtain rfl:i=0:=by have:=A1 w;omega
   rw[show flat a b (fun r _=>decide (0<=r))=flat a b (fun _ _=>true) from dZ fun r q _ _=>.inl (by simp)];refine G8 (Sees.freeze (k:=20) Z) ?_;refine k6 (k2 ?_);refine A7 (A6 (A8 Z Z) Z (A6 (A9 Z Z) Z (B0 ?_)));refine k1 (I9 ?_);exact C2 (J5 rfl rfl rfl) rfl
theorem QZ{n:Int}(h:-9223372036854775808<=n/\n<=9223372036854775807):IntKind.i64.wrap n=n:=IntWalk.i64_in _ h
theorem GL{gf:Fr}{ob:Obs}(a b:List Int)(i j:Nat)(ha:a.length<=4096)(hb:b.length<=4096)(m:i<=a.length)(q:j<=b.length)(y:C5 ob 8=some (.box [.p (.list Int 1 jX (flat a b (fun _ _=>true)))]))(w:C5 ob 3=some (.box [.p (.list Int 1 G1 b)])) :
  AL.Met Tryz.prog 246 [.one (.p (.v (.int .i64 i))),.one (.p (.v (.int .i64 j))),.one (.ref 8 0),.one (.ref 3 0)] gf ob [] (fun C ob'=>C=[.one (.p (.v (.int .i64 (dist (a.drop i) (b.drop j):Int))))]/\ob'=ob):=by
 have k:=sH (a:=a) (b:=b) (done:=fun _ _=>true) m q;rw[A4 rfl]at k;have B:=(pT (a:=a) (b:=b) m q).1;have D:=oQ a b (fun _ _=>true);have c:(i:Int)*((b.length:Int)+1)=((i*(b.length+1):Nat):Int):=by push_cast;rfl
 have z:i*(b.length+1)<=4096*4097:=Nat.mul_le_mul (by omega) (by omega);have g:(a.length+1)*(b.length+1)<=4097*4097:=Nat.mul_le_mul (by omega) (by omega);have d:(flat a b (fun _ _=>true))[((i:Int)*((b.length:Int)+1)+j).toNat]?=some (dist (a.drop i) (b.drop j):Int):=by
  rw[c,show (((i*(b.length+1):Nat):Int)+j).toNat=i*(b.length+1)+j by omega];exact k
 have A:=yC (a.drop i) (b.drop j);simp only[XS]at A;refine AL.Met.intro Tryz.func246 (by decide) Z Z Z ?_;refine k2 ?_;refine A7 (A6 (A9 Z Z) Z (B0 ?_));refine k1 (k2 ?_);refine A7 (A6 (B2 Z y Z) Z (A6 (A8 Z Z) Z (A6 (B2 Z w Z) Z (A6 (F0 Z (.pure _ _ _ _)) Z (A6 (D5 Z Z (by omega)) Z (A6 (cO Z Z (by (rw[c];omega))) Z ?_))))));refine A6 (A8 Z Z) Z (A6 (D5 Z Z (by (rw[c];omega))) Z ?_);refine A6 (B8 Z (.pure _ _ _ _) Z (by omega) d) Z (A6 (C0 Z Z) Z (A6 (V0 Z) Z (A6 (A9 Z Z) Z (B0 ?_))));rw[QZ (by omega)];refine k1 (I9 ?_);exact I6 (X2 rfl rfl) (by repeat (first | exact C3 | refine C4 rfl ?_ | refine F8 _ ?_)) (fun _ _ h=>h) ⟨rfl,rfl⟩
theorem MQ(a b:List Int)(ha:a.length<=4096)(hb:b.length<=4096):FnOk Tryz.prog 181 [O6 a,O6 b] (fun rs=>rs=[pSpans (K6 0 0 a b)]):=by
 obtain⟨n,R⟩:∃n,n=T8 a b:=⟨_,rfl⟩
 have S:=BD a b;rw[<-R]at S;have C:=sK a b 0 0;rw[<-R]at C;refine FnOk.intro Tryz.func181 (by decide) Z Z Z Z ?_;refine k2 ?_;refine A7 (D6 (j1 3 Z Z Z) Z (A6 (A9 Z Z) Z (B0 ?_)));refine k1 (k2 ?_);refine A7 (D6 (y6 5 _ spanC Z) Z (B0 ?_));refine k1 (k2 ?_);refine A7 (A6 (A8 Z Z) Z (A6 (B2 Z Z Z) Z (D1 (tV a b (by omega)) Z Z Z ?_)));rintro _ rfl;refine A6 (A9 Z Z) Z (B0 ?_);rw[<-R];refine k1 (k2 (k2 ?_));refine A7 (A6 (A8 Z Z) Z (A6 (A8 Z Z) Z (B0 ?_)));refine k1 (k3 ?_);refine E4 (X:=Nat) (fun k=>([(0,E3 Int 1 G1 a),(3,.s (.one (.ref 3 0))),(5,.s (.one (.buf 5 Span 2 spanC (N9 0 0 k)))),(6,C7 n),(15,C7 n),(16,C7 k)],[(3,.box [.p (.list Int 1 G1 b)]),(5,.spare (N9 0 0 k).length 2 46)])) (fun k=>k<=n) (fun k=>n-k) 0 (Nat.zero_le _) (Sees.of ⟨B4 rfl,B4 rfl,B4 rfl,B4 rfl,B4 rfl,B4 rfl,trivial⟩ ⟨rfl,rfl,trivial⟩) ?_;intro k hk;dsimp only at hk ⊢;have W:=X5 0 0 k;refine k2 ?_;refine A7 (A6 (F3 Z Z) Z (B0 ?_));refine k1 (k2 ?_);refine B9 rfl (fun y=>?_) (fun y=>?_)
 ·have ac:k<n:=by have:=A0 y;omega
  have Y:=lK 0 0 k;refine k5 (k1 (k2 (k3 (k2 ?_))));refine A7 (A6 (A8 Z Z) Z (A6 (A9 Z Z) Z (B0 ?_)));refine k1 ?_;refine A7 (A6 (A8 Z Z) Z (A6 (A8 Z Z) Z (A6 (A8 Z Z) Z (A6 (H1 Z) Z (A6 (D9 (c:=spanC) (ys:=[⟨(k:Int),(k:Int)⟩]) (D8 Z Z Z Z H5) Z Z Z) Z (D6 (N6 Z Z Z (.pure _ _ _ _) (by (simp only[WW,XD];omega)) Z) Z (A6 (A9 Z Z) Z (B0 ?_))))))));refine k4 (k1 ?_);refine A7 (A6 (D5 Z Z (by omega)) Z (A6 (A8 Z Z) Z (B0 ?_)));refine k1 ?_;refine⟨k+1,by omega,by omega,?_⟩;rw[Y,show (0:Int)+(k:Int)=k by omega];exact Sees.of ⟨B4 rfl,B4 rfl,B4 rfl,B4 rfl,B4 rfl,B4 rfl,trivial⟩ ⟨rfl,rfl,trivial⟩
 have Q:k=n:=by have:=A1 y;omega
 subst Q;obtain⟨m,G⟩:∃m,m=a.drop k:=⟨_,rfl⟩
 obtain⟨d,I⟩:∃d,d=b.drop k:=⟨_,rfl⟩
 have H:m.length<=4096:=by rw[G,XS];omega
 have J:d.length<=4096:=by rw[I,XS];omega
 rw[Int.zero_add,<-G,<-I]at C;refine k6 (k2 ?_);refine D7 (by kernel_rfl) (by kernel_rfl) (B3 (A8 Z Z) Z Z (B3 (A8 Z Z) Z Z (B3 (aA Z (.pure _ _ _ _) Z (by omega) (by omega)) Z Z (B3 (B2 Z Z Z) Z Z (B3 (A8 Z Z) Z Z (B3 (aA Z (.pure _ _ _ _) Z (by omega) (by omega)) Z Z (B3 (A9 Z Z) Z Z (uH (C1 TySz.out Z Z Z Z Z Z) Z (M5 ?_)))))))));rw[WV,<-G,<-I];refine k1 (k2 ?_);refine A7 (A6 (A8 Z Z) Z (A6 (B2 Z Z Z) Z (D1 (tW m d H J) Z Z Z ?_)));rintro _ rfl;refine D6 (I1 8 Z) Z (F7 (C1 TySz.out Z Z Z Z Z Z) (B0 ?_));refine k1 (k2 ?_);refine A7 (A6 (dI Z Z) Z (A6 (A9 Z Z) Z (B0 ?_)));refine k1 (k2 (k2 ?_));refine A7 (A6 (A9 Z Z) Z (A6 (A9 Z Z) Z (B0 ?_)));refine k1 (k3 ?_);refine E4 (X:=Nat×Nat×List Span) (fun x=>([(0,E3 Int 1 G1 m),(3,.s (.one (.ref 3 0))),(5,.s (.one (.buf 5 Span 2 spanC x.2.2))),(6,C7 k),(8,.s (.one (.ref 8 0))),(9,.s (.one (.clo 246 [] [(8,0),(3,0)]))),(10,C7 x.1),(11,C7 x.2.1)],[(3,.box [.p (.list Int 1 G1 d)]),(5,.spare x.2.2.length 2 46),(8,.box [.p (.list Int 1 jX (flat m d (fun _ _=>true)))])])) (fun x=>x.1<=m.length/\x.2.1<=d.length/\x.2.2.length<=k+x.1/\K6 0 0 a b=x.2.2++K6 (k+x.1) (k+x.2.1) (m.drop x.1) (d.drop x.2.1)) (fun x=>(m.length-x.1)+(d.length-x.2.1)) (0,0,N9 0 0 k) ⟨Nat.zero_le _,Nat.zero_le _,by rw[W];exact Nat.le_refl _,by simpa using C⟩ (Sees.of ⟨B4 rfl,B4 rfl,B4 rfl,B4 rfl,B4 rfl,B4 rfl,B4 rfl,B4 rfl,trivial⟩ ⟨rfl,rfl,rfl,trivial⟩) ?_;rintro⟨i,j,z⟩ ⟨hi,P,U,F⟩;dsimp only at hi P U F ⊢;refine k2 (k2 ?_);refine A7 (A6 (A8 Z Z) Z (A6 (A8 Z Z) Z (A6 (F0 Z (.pure _ _ _ _)) Z (A6 (F3 Z Z) Z (A6 (A8 Z Z) Z (B6 Z Z Z Z (fun v=>by rw[v];exact A8 Z Z) ?_))))));refine B6 Z Z Z Z (fun v=>by rw[v];exact B2 Z Z Z) ?_;refine B6 Z Z Z Z (fun v=>by rw[v];exact F0 Z (.pure _ _ _ _)) ?_;refine B6 Z Z Z Z (fun v=>by rw[v];exact F3 Z Z) ?_;refine A6 (C6 Z (fun h=>by first | rfl | (rw[h];rfl)) (fun h=>by first | rfl | (rw[h];rfl))) Z ?_;refine B0 ?_;refine k1 ?_;refine B9 rfl (fun y=>?_) (fun y=>?_)
 ·simp only[or_pick]at y;have K:=A0 y;refine Y9 [(0,E3 Int 1 G1 m),(3,.s (.one (.ref 3 0))),(5,.s (.one (.buf 5 Span 2 spanC z))),(6,C7 k),(8,.s (.one (.ref 8 0))),(9,.s (.one (.clo 246 [] [(8,0),(3,0)]))),(10,C7 i),(11,C7 j)] [(3,.box [.p (.list Int 1 G1 d)]),(5,.spare z.length 2 46),(8,.box [.p (.list Int 1 jX (flat m d (fun _ _=>true)))])] (Sees.of ⟨B4 rfl,B4 rfl,B4 rfl,B4 rfl,B4 rfl,B4 rfl,B4 rfl,B4 rfl,trivial⟩ ⟨rfl,rfl,rfl,trivial⟩) ?_;refine k5 (k1 (k3 (k3 (k2 ?_))));refine D7 (by kernel_rfl) (by kernel_rfl) (B3 (A8 Z Z) Z Z (B3 (A8 Z Z) Z Z (B3 (F0 Z (.pure _ _ _ _)) Z Z (B3 (F3 Z Z) Z Z (B3 (A8 Z Z) Z Z (E7 Z Z (fun v=>by rw[v];exact A8 Z Z) Z Z ?_))))));refine E7 Z Z (fun v=>by rw[v];exact B2 Z Z Z) Z Z ?_;refine E7 Z Z (fun v=>by rw[v];exact F0 Z (.pure _ _ _ _)) Z Z ?_;refine E7 Z Z (fun v=>by rw[v];exact F3 Z Z) Z Z ?_;refine B3 (C6 Z (fun h=>by first | rfl | (rw[h];rfl)) (fun h=>by first | rfl | (rw[h];rfl))) Z Z ?_;refine B3 (A8 Z Z) Z Z (E7 Z Z (fun v=>by rw[v];exact A8 Z Z) Z Z ?_);refine E7 Z Z (fun v=>by rw[v];exact A8 Z Z) Z Z ?_;refine E7 Z Z (fun v=>by have V:=v;(try simp at V);rw[v];exact B8 Z (.pure _ _ _ _) Z (by omega) (lE (by omega))) Z Z ?_;refine E7 Z Z (fun v=>by rw[v];exact C0 Z Z) Z Z ?_;refine E7 Z Z (fun v=>by rw[v];exact B2 Z Z Z) Z Z ?_;refine E7 Z Z (fun v=>by rw[v];exact A8 Z Z) Z Z ?_;refine E7 Z Z (fun v=>by have V:=v;(try simp at V);rw[v];exact B8 Z (.pure _ _ _ _) Z (by omega) (lE (by omega))) Z Z ?_;refine E7 Z Z (fun v=>by rw[v];exact C0 Z Z) Z Z ?_;refine E7 Z Z (fun v=>by rw[v];exact K4 Z Z) Z Z ?_;refine B3 (C6 Z (fun h=>by first | rfl | (rw[h];rfl)) (fun h=>by first | rfl | (rw[h];rfl))) Z Z ?_;refine B3 (A9 Z Z) Z Z (M5 ?_);refine k1 ?_;refine B9 rfl (fun y=>?_) (fun y=>?_)
  ·simp only[and_pick]at y;obtain⟨⟨M,A⟩,B⟩:=A0 y;have M:i<m.length:=by omega
   have A:j<d.length:=by omega
   rw[oJ m d i j M A,A4 (by simpa[M,A] using B)]at F;refine Y9 [(0,E3 Int 1 G1 m),(3,.s (.one (.ref 3 0))),(5,.s (.one (.buf 5 Span 2 spanC z))),(6,C7 k),(8,.s (.one (.ref 8 0))),(9,.s (.one (.clo 246 [] [(8,0),(3,0)]))),(10,C7 i),(11,C7 j)] [(3,.box [.p (.list Int 1 G1 d)]),(5,.spare z.length 2 46),(8,.box [.p (.list Int 1 jX (flat m d (fun _ _=>true)))])] (Sees.of ⟨B4 rfl,B4 rfl,B4 rfl,B4 rfl,B4 rfl,B4 rfl,B4 rfl,B4 rfl,trivial⟩ ⟨rfl,rfl,rfl,trivial⟩) ?_;refine k2 ?_;refine A7 (A6 (A8 Z Z) Z (A6 (A8 Z Z) Z (A6 (A8 Z Z) Z (A6 (D5 Z Z (by omega)) Z (A6 (A8 Z Z) Z (A6 (A8 Z Z) Z (A6 (D5 Z Z (by omega)) Z (A6 (H1 Z) Z (A6 (D9 (c:=spanC) (ys:=[⟨(k:Int)+i,(k:Int)+j⟩]) (D8 Z Z Z Z H5) Z Z Z) Z (D6 (N6 Z Z Z (.pure _ _ _ _) (by (simp only[WW,XD];omega)) Z) Z (A6 (A9 Z Z) Z (B0 ?_))))))))))));refine k1 ?_;refine A7 (A6 (A8 Z Z) Z (A6 (D5 Z Z (by omega)) Z (A6 (A8 Z Z) Z (A6 (D5 Z Z (by omega)) Z (A6 (A9 Z Z) Z (A6 (A9 Z Z) Z (B0 ?_)))))));refine k4 (k4 (k1 ?_));refine⟨(i+1,j+1,z++[⟨(k:Int)+i,(k:Int)+j⟩]),⟨by dsimp only;omega,by dsimp only;omega,by simp;omega,?_⟩,by dsimp only;omega,Sees.of ⟨B4 rfl,B4 rfl,B4 rfl,B4 rfl,B4 rfl,B4 rfl,B4 rfl,B4 rfl,trivial⟩ ⟨rfl,rfl,rfl,trivial⟩⟩;dsimp only;rw[F,XH]
   congr 2
  ·simp only[and_pick]at y;have T:=A1 y;refine Y9 [(0,E3 Int 1 G1 m),(3,.s (.one (.ref 3 0))),(5,.s (.one (.buf 5 Span 2 spanC z))),(6,C7 k),(8,.s (.one (.ref 8 0))),(9,.s (.one (.clo 246 [] [(8,0),(3,0)]))),(10,C7 i),(11,C7 j)] [(3,.box [.p (.list Int 1 G1 d)]),(5,.spare z.length 2 46),(8,.box [.p (.list Int 1 jX (flat m d (fun _ _=>true)))])] (Sees.of ⟨B4 rfl,B4 rfl,B4 rfl,B4 rfl,B4 rfl,B4 rfl,B4 rfl,B4 rfl,trivial⟩ ⟨rfl,rfl,rfl,trivial⟩) ?_;by_cases M:i<m.length
   ·have D:decide ((i:Int)<(m.length:Int))=true:=A2 (by omega);have O:=yC (m.drop (i+1)) (d.drop j);simp only[XS]at O;have E:¬j<d.length->dist (m.drop (i+1)) (d.drop j)+1=dist (m.drop i) (d.drop j)/\K6 (k+i) (k+j) (m.drop i) (d.drop j)=K6 (k+i+1) (k+j) (m.drop (i+1)) (d.drop j):=by
     intro ab;rw[show d.drop j=[] from XO (by omega),lJ,lJ,XS,XS,p9,p9];exact⟨by omega,rfl⟩
    have N:j<d.length->K6 (k+i) (k+j) (m.drop i) (d.drop j)=if dist (m.drop (i+1)) (d.drop j)+1=dist (m.drop i) (d.drop j) then K6 (k+i+1) (k+j) (m.drop (i+1)) (d.drop j) else K6 (k+i) (k+j+1) (m.drop i) (d.drop (j+1)):=by
     intro A;rw[oJ m d i j M A,A5];intro B;exact T ⟨⟨by omega,by omega⟩,by simpa[M,A] using B⟩
    refine k2 ?_;refine A7 (A6 (A8 Z Z) Z (A6 (A8 Z Z) Z (A6 (F0 Z (.pure _ _ _ _)) Z (A6 (F3 Z Z) Z (A6 (A8 Z Z) Z (K0 Z Z Z D (A6 (A8 Z Z) Z (K0 Z Z Z D (A6 (A8 Z Z) Z (K0 Z Z Z D (A6 (D5 Z Z (by omega)) Z (K0 Z Z Z D (A6 (A8 Z Z) Z (K0 Z Z Z D (jH (GL m d (i+1) j H J (by omega) P Z Z) Z Z Z Z ?_)))))))))))))));rintro _ _ ⟨rfl,rfl⟩;refine K0 Z Z Z D (A6 (D5 Z Z (by omega)) Z (K0 Z Z Z D (A6 (A8 Z Z) Z (K0 Z Z Z D (A6 (A8 Z Z) Z (K0 Z Z Z D (A6 (A8 Z Z) Z (K0 Z Z Z D (jH (GL m d i j H J hi P Z Z) Z Z Z Z ?_)))))))));rintro _ _ ⟨rfl,rfl⟩;refine K0 Z Z Z D (A6 (K4 Z Z) Z (A6 (C6 Z (fun h=>by first | rfl | (rw[h];rfl)) (fun h=>by first | rfl | (rw[h];rfl))) Z ?_));refine A6 (A9 Z Z) Z (B0 ?_);refine k1 ?_;refine B9 rfl (fun y=>?_) (fun y=>?_)
    ·simp only[and_pick]at y;obtain⟨_,B⟩:=A0 y;have B:dist (m.drop (i+1)) (d.drop j)+1=dist (m.drop i) (d.drop j):=by omega
     have L:K6 (k+i) (k+j) (m.drop i) (d.drop j)=K6 (k+i+1) (k+j) (m.drop (i+1)) (d.drop j):=by
      by_cases A:j<d.length
      ·rw[N A,A4 B]
      ·exact (E A).2
     rw[L]at F;skip;refine A7 (A6 (A8 Z Z) Z (A6 (D5 Z Z (by omega)) Z (A6 (A9 Z Z) Z (B0 ?_))));refine k4 (k4 (k1 ?_));refine⟨(i+1,j,z),⟨by dsimp only;omega,by dsimp only;omega,by dsimp only;omega,?_⟩,by dsimp only;omega,Sees.of ⟨B4 rfl,B4 rfl,B4 rfl,B4 rfl,B4 rfl,B4 rfl,B4 rfl,B4 rfl,trivial⟩ ⟨rfl,rfl,rfl,trivial⟩⟩;dsimp only;rw[F,show (k:Int)+(i:Int)+1=(k:Int)+((i+1:Nat):Int) by omega]
    ·simp only[and_pick]at y;have B:=A1 y;have B:¬dist (m.drop (i+1)) (d.drop j)+1=dist (m.drop i) (d.drop j):=fun q=>B ⟨by omega,by omega⟩;have A:j<d.length:=by
      by_cases A:j<d.length
      ·exact A
      ·exact absurd (E A).1 B
     rw[N A,A5 B]at F;skip;refine A7 (A6 (A8 Z Z) Z (A6 (D5 Z Z (by omega)) Z (A6 (A9 Z Z) Z (B0 ?_))));refine k4 (k4 (k1 ?_));refine⟨(i,j+1,z),⟨by dsimp only;omega,by dsimp only;omega,by dsimp only;omega,?_⟩,by dsimp only;omega,Sees.of ⟨B4 rfl,B4 rfl,B4 rfl,B4 rfl,B4 rfl,B4 rfl,B4 rfl,B4 rfl,trivial⟩ ⟨rfl,rfl,rfl,trivial⟩⟩;dsimp only;rw[F,show (k:Int)+(j:Int)+1=(k:Int)+((j+1:Nat):Int) by omega]
   ·have w:decide ((i:Int)<(m.length:Int))=false:=A3 (by omega);have A:j<d.length:=by omega
    refine k2 ?_;refine A7 (A6 (A8 Z Z) Z (A6 (A8 Z Z) Z (A6 (F0 Z (.pure _ _ _ _)) Z (A6 (F3 Z Z) Z (A6 (A8 Z Z) Z (M3 Z Z Z (by rw[w];decide) Z ?_))))));refine M3 Z Z Z (by rw[w];decide) Z ?_;refine M3 Z Z Z (by rw[w];decide) Z ?_;refine M3 Z Z Z (by rw[w];decide) Z ?_;refine M3 Z Z Z (by rw[w];decide) Z ?_;refine M3 Z Z Z (by rw[w];decide) Z ?_;refine M3 Z Z Z (by rw[w];decide) Z ?_;refine M3 Z Z Z (by rw[w];decide) Z ?_;refine M3 Z Z Z (by rw[w];decide) Z ?_;refine M3 Z Z Z (by rw[w];decide) Z ?_;refine M3 Z Z Z (by rw[w];decide) Z ?_;refine A6 (P0 Z (w) Z) Z (A6 (A9 Z Z) Z (B0 ?_));refine k1 ?_;refine B9 rfl (fun y=>?_) (fun y=>?_)
    ·cases y
    ·skip;refine A7 (A6 (A8 Z Z) Z (A6 (D5 Z Z (by omega)) Z (A6 (A9 Z Z) Z (B0 ?_))));refine k4 (k4 (k1 ?_));refine⟨(i,j+1,z),⟨by dsimp only;omega,by dsimp only;omega,by dsimp only;omega,?_⟩,by dsimp only;omega,Sees.of ⟨B4 rfl,B4 rfl,B4 rfl,B4 rfl,B4 rfl,B4 rfl,B4 rfl,B4 rfl,trivial⟩ ⟨rfl,rfl,rfl,trivial⟩⟩;dsimp only;rw[F,show m.drop i=[] from XO (by omega),c6,c6]
 ·simp only[or_pick]at y;have K:=A1 y;rw[show m.drop i=[] from XO (by omega),c6,YB]at F;refine k6 (k2 ?_);refine A7 (A6 (A8 Z Z) Z (A6 (A9 Z Z) Z (B0 ?_)));refine k1 (I9 ?_);exact C2 (J5 rfl rfl rfl) (by rw[F])
theorem rI(a b:List Int)(ha:a.length<=4096)(hb:b.length<=4096):FnOk Tryz.prog 130 [O6 a,O6 b] (fun rs=>rs=[pChanges (jR a b),E8 0]):=by
 have d:=rU a b 0 0;rw[Int.zero_add,Int.zero_add]at d;have f:=iS 0 0 a b;refine FnOk.intro Tryz.func130 (by decide) Z Z Z Z ?_;refine k2 ?_;refine A7 (A6 (A9 Z Z) Z (A6 (A9 Z Z) Z (B0 ?_)));refine k1 (k2 (k2 ?_));refine A7 (A6 (A8 Z Z) Z (A6 (A8 Z Z) Z (D1 (AQ a b) Z Z Z ?_)));rintro _ rfl;refine A6 (N2 Z) Z (B0 ?_);refine k1 ?_;refine B9 rfl (fun c=>?_) (fun c=>?_)
 ·exfalso;have h:decide ((a.length:Int)<=4096/\(b.length:Int)<=4096)=true:=A2 ⟨by omega,by omega⟩;rw[h]at c;cases c
 refine k5 (k1 (k2 ?_));refine A7 (A6 (A8 Z Z) Z (A6 (A8 Z Z) Z (D1 (MQ a b ha hb) Z Z Z ?_)));rintro _ rfl;refine A6 (A8 Z Z) Z (A6 (F0 Z (.pure _ _ _ _)) Z (A6 (A8 Z Z) Z (A6 (F0 Z (.pure _ _ _ _)) Z (D1 (tU (K6 0 0 a b) a.length b.length ⟨by omega,by omega⟩ ⟨by omega,by omega⟩ d (by omega)) Z Z Z ?_))));rintro _ rfl;refine A6 (B7 Z Z) Z (A6 (B7 Z Z) Z (A6 (A9 Z Z) Z (A6 (A9 Z Z) Z (B0 ?_))));refine k1 (I9 ?_);exact C2 (U1 rfl rfl rfl rfl rfl) rfl
end Go.Proofs.YtbflhoahmmfkmaaGreatDoor
