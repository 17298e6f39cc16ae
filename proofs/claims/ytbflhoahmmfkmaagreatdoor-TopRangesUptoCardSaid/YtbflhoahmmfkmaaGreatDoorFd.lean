/- Walks of the program's functions. -/
import Derived.Test.YtbflhoahmmfkmaaGreatDoorFc
set_option linter.all false
namespace Go.Proofs.YtbflhoahmmfkmaaGreatDoor
open Go Go.AL
set_option maxRecDepth 100000
set_option maxHeartbeats 2000000
def dU(l:List Int):Str:=Z2 (l.map fun c=>[c])
structure DoArm (g:Graph) (c:Cmd) (out:Str) (e:Int):Prop where
 log:c.Kind=1->∃l:List Int,l.length<=1000/\out=dU l/\FnOk Tryz.prog 17 [G7 g,O5 [c.A]] (fun rs=>rs=[O5 l,E7 e])
 diff:c.Kind=3->FnOk Tryz.prog 35 [G7 g,bI c] (fun rs=>rs=[G8 out,E7 e])
 merge:c.Kind=4->FnOk Tryz.prog 36 [G7 g,bI c] (fun rs=>rs=[G8 out,E7 e])
 lit:c.Kind=5->∃l:List Int,l.length<=1000/\out=dU l/\FnOk Tryz.prog 24 [G7 g,E7 c.A,G8 c.Text] (fun rs=>rs=[O5 l,E7 e])
 lines:c.Kind=7->FnOk Tryz.prog 38 [G7 g,bI c] (fun rs=>rs=[G8 out,E7 e])
 blame:c.Kind=8->FnOk Tryz.prog 39 [G7 g,bI c] (fun rs=>rs=[G8 out,E7 e])
 bases:c.Kind=9->∃l:List Int,l.length<=1000/\out=dU l/\FnOk Tryz.prog 23 [G7 g,E7 c.A,E7 c.B] (fun rs=>rs=[O5 l,E7 e])
theorem zL(g:Graph)(c:Cmd)(t:Str)(e:Int)(h:FewT g)(H:O6 g=0)(z:c.Text.length<=1048576)(I:(dI c).2=0)(C:l3 g c.A)(G:c.Kind=3\/c.Kind=9->l3 g c.B)(R:1<=c.Kind/\c.Kind<=9/\c.Kind≠2/\c.Kind≠6)(p:DoArm g c t e) :
  FnOk Tryz.prog 11 [G7 g,bI c] (fun rs=>rs=[G8 t,E7 e]):=by
 have D:=mK g h;rw[H]at D;have E:=DE c z;rw[I]at E;refine FnOk.intro Tryz.func11 (by decide) Z Z Z Z ?_;refine k2 ?_;refine A7 (D3 (bU 3 Z Z Z) Z (A6 (A9 Z Z) Z (A6 (A9 Z Z) Z (B0 ?_))));refine k1 (k2 (k2 ?_));refine A7 (A6 (A8 Z Z) Z (C7 (D) Z Z Z ?_));rintro _ rfl;refine A6 (A9 Z Z) Z (B0 ?_);refine k1 (k2 ?_);refine A7 (A6 (A8 Z Z) Z (A6 (P6 Z Z) Z (B0 ?_)));refine k1 ?_;refine B7 rfl (fun i=>?_) (fun i=>?_)
 ·exact absurd rfl (A0 i)
 refine k5 (k1 (k2 (k2 ?_)));refine A7 (A6 (F4 Z Z Z) Z (C7 (E) Z Z Z ?_));rintro _ rfl;refine A6 (A8 Z Z) Z (A6 (B5 Z Z) Z (A6 (B5 Z Z) Z (A6 (A9 Z Z) Z (A6 (A9 Z Z) Z (B0 ?_)))));refine k1 (k2 ?_);refine A7 (A6 (A8 Z Z) Z (A6 (P6 Z Z) Z (B0 ?_)));refine k1 ?_;refine B7 rfl (fun i=>?_) (fun i=>?_)
 ·exact absurd rfl (A0 i)
 refine k5 (k1 (k2 ?_));refine A7 (A6 (B1 Z) Z (A6 (B2 Z Z Z) Z (A6 (J4 Z Z) Z (A6 (A8 Z Z) Z (B3 Z Z Z Z (fun j=>by rw[j];exact B1 Z) ?_)))));refine B3 Z Z Z Z (fun j=>by rw[j];exact B2 Z Z Z) ?_;refine B3 Z Z Z Z (fun j=>by rw[j];exact J4 Z Z) ?_;refine A6 (B9 Z (fun h=>by first | rfl | (rw[h];rfl)) (fun h=>by first | rfl | (rw[h];rfl))) Z ?_;refine A6 (A9 Z Z) Z (B0 ?_);refine Y4 [(0,E2 Commit 3 I0 g),(3,.s (.one (.ref 3 0))),(9,Q1 (decide (c.Kind=3\/c.Kind=9)))] [(3,.box (iX c))] (by rw[<-or_pick];exact (Sees.of ⟨B4 rfl,B4 rfl,B4 rfl,trivial⟩ ⟨rfl,trivial⟩)) ?_;refine k2 (k2 ?_);refine A7 (A6 (A8 Z Z) Z (A6 (B1 Z) Z (A6 (B2 Z Z Z) Z (C7 (tK g c.A) Z Z Z ?_))));rintro _ rfl;refine A6 (M8 Z) Z (A6 (A8 Z Z) Z (B3 Z Z Z Z (fun j=>by rw[j];exact A8 Z Z) ?_));refine B3 Z Z Z Z (fun j=>by rw[j];exact A8 Z Z) ?_;refine Y0 Z Z Z (.gd (.val _)) Z (fun j=>by obtain⟨k,m⟩:=aQ j;(try rw[k]);(try rw[m]);exact A8 Z Z) ?_;refine Y0 Z Z Z (.gd (.val _)) Z (fun j=>by obtain⟨k,m⟩:=aQ j;(try rw[k]);(try rw[m]);exact B1 Z) ?_;refine Y0 Z Z Z (.gd (.val _)) Z (fun j=>by obtain⟨k,m⟩:=aQ j;(try rw[k]);(try rw[m]);exact B2 Z Z Z) ?_;refine Y0 Z Z Z (.gd (.val _)) Z (fun j=>by have J:=j;(try simp at J);obtain⟨k,m⟩:=aQ j;(try rw[k]);(try rw[m]);exact K4 (tK g c.B) Z Z) ?_;refine Y0 Z Z Z (.gd (.val _)) Z (fun j=>by obtain⟨k,m⟩:=aQ j;(try rw[k]);(try rw[m]);exact M8 Z) ?_;refine B3 Z Z Z Z (fun j=>by rw[j];exact B9 Z (fun h=>by first | rfl | (rw[h];rfl)) (fun h=>by first | rfl | (rw[h];rfl))) ?_;refine A6 (B9 Z (fun h=>by first | rfl | (rw[h];rfl)) (fun h=>by first | rfl | (rw[h];rfl))) Z ?_;refine B0 ?_;refine k1 ?_;refine B7 rfl (fun i=>?_) (fun i=>?_)
 ·exfalso;revert i;by_cases y:c.Kind=3\/c.Kind=9
  ·simp[C,G y,y]
  ·simp[C,y]
 refine Y4 [(0,E2 Commit 3 I0 g),(3,.s (.one (.ref 3 0)))] [(3,.box (iX c))] (Sees.of ⟨B4 rfl,B4 rfl,trivial⟩ ⟨rfl,trivial⟩) ?_;refine k5 (k1 (k2 (k2 ?_)));refine A7 (A6 (B1 Z) Z (A6 (B2 Z Z Z) Z (B0 ?_)));refine k1 (k3 (k2 ?_));refine A7 (A6 (J4 Z Z) Z (A6 (A9 Z Z) Z (B0 ?_)));refine k1 ?_;refine B7 rfl (fun i=>?_) (fun i=>?_)
 ·obtain⟨l,u,w,q⟩:=p.log (A0 i);rw[w];refine k2 ?_;refine A7 (A6 (A8 Z Z) Z (A6 (B1 Z) Z (A6 (B2 Z Z Z) Z (A6 (D9 (c:=G4) (ys:=[c.A]) (D4 Z Z Z Z H3) Z Z Z) Z (C7 (q) Z Z Z ?_)))));rintro _ rfl;refine A6 (B5 Z Z) Z (A6 (B5 Z Z) Z (C7 (cZ l e u) Z Z Z ?_));rintro _ rfl;refine A6 (B5 Z Z) Z (A6 (B5 Z Z) Z (A6 (A9 Z Z) Z (A6 (A9 Z Z) Z (B0 ?_))));refine k1 (J0 (X3 (M7 ?_)));exact C0 (rs:=[G8 (dU l),E7 e]) (Z7 rfl rfl rfl rfl rfl) rfl
 refine k2 ?_;refine A7 (A6 (J4 Z Z) Z (A6 (A9 Z Z) Z (B0 ?_)));refine k1 ?_;refine B7 rfl (fun i=>?_) (fun i=>?_)
 ·have:=A0 i;omega
 refine k2 ?_;refine A7 (A6 (J4 Z Z) Z (A6 (A9 Z Z) Z (B0 ?_)));refine k1 ?_;refine B7 rfl (fun i=>?_) (fun i=>?_)
 ·have q:=p.diff (A0 i);refine k2 ?_;refine A7 (A6 (A8 Z Z) Z (A6 (F4 Z Z Z) Z (C7 (q) Z Z Z ?_)));rintro _ rfl;refine A6 (B5 Z Z) Z (A6 (B5 Z Z) Z (A6 (A9 Z Z) Z (A6 (A9 Z Z) Z (B0 ?_))));refine k1 (J0 (X3 (M7 ?_)));exact C0 (rs:=[G8 t,E7 e]) (Z7 rfl rfl rfl rfl rfl) rfl
 refine k2 ?_;refine A7 (A6 (J4 Z Z) Z (A6 (A9 Z Z) Z (B0 ?_)));refine k1 ?_;refine B7 rfl (fun i=>?_) (fun i=>?_)
 ·have q:=p.merge (A0 i);refine k2 ?_;refine A7 (A6 (A8 Z Z) Z (A6 (F4 Z Z Z) Z (C7 (q) Z Z Z ?_)));rintro _ rfl;refine A6 (B5 Z Z) Z (A6 (B5 Z Z) Z (A6 (A9 Z Z) Z (A6 (A9 Z Z) Z (B0 ?_))));refine k1 (J0 (X3 (M7 ?_)));exact C0 (rs:=[G8 t,E7 e]) (Z7 rfl rfl rfl rfl rfl) rfl
 refine k2 ?_;refine A7 (A6 (J4 Z Z) Z (A6 (A9 Z Z) Z (B0 ?_)));refine k1 ?_;refine B7 rfl (fun i=>?_) (fun i=>?_)
 ·obtain⟨l,u,w,q⟩:=p.lit (A0 i);rw[w];refine k2 ?_;refine A7 (A6 (A8 Z Z) Z (A6 (B1 Z) Z (A6 (B2 Z Z Z) Z (A6 (B1 Z) Z (A6 (B2 Z Z Z) Z (C7 (q) Z Z Z ?_))))));rintro _ rfl;refine A6 (B5 Z Z) Z (A6 (B5 Z Z) Z (C7 (cZ l e u) Z Z Z ?_));rintro _ rfl;refine A6 (B5 Z Z) Z (A6 (B5 Z Z) Z (A6 (A9 Z Z) Z (A6 (A9 Z Z) Z (B0 ?_))));refine k1 (J0 (X3 (M7 ?_)));exact C0 (rs:=[G8 (dU l),E7 e]) (Z7 rfl rfl rfl rfl rfl) rfl
 refine k2 ?_;refine A7 (A6 (J4 Z Z) Z (A6 (A9 Z Z) Z (B0 ?_)));refine k1 ?_;refine B7 rfl (fun i=>?_) (fun i=>?_)
 ·have:=A0 i;omega
 refine k2 ?_;refine A7 (A6 (J4 Z Z) Z (A6 (A9 Z Z) Z (B0 ?_)));refine k1 ?_;refine B7 rfl (fun i=>?_) (fun i=>?_)
 ·have q:=p.lines (A0 i);refine k2 ?_;refine A7 (A6 (A8 Z Z) Z (A6 (F4 Z Z Z) Z (C7 (q) Z Z Z ?_)));rintro _ rfl;refine A6 (B5 Z Z) Z (A6 (B5 Z Z) Z (A6 (A9 Z Z) Z (A6 (A9 Z Z) Z (B0 ?_))));refine k1 (J0 (X3 (M7 ?_)));exact C0 (rs:=[G8 t,E7 e]) (Z7 rfl rfl rfl rfl rfl) rfl
 refine k2 ?_;refine A7 (A6 (J4 Z Z) Z (A6 (A9 Z Z) Z (B0 ?_)));refine k1 ?_;refine B7 rfl (fun i=>?_) (fun i=>?_)
 ·have q:=p.blame (A0 i);refine k2 ?_;refine A7 (A6 (A8 Z Z) Z (A6 (F4 Z Z Z) Z (C7 (q) Z Z Z ?_)));rintro _ rfl;refine A6 (B5 Z Z) Z (A6 (B5 Z Z) Z (A6 (A9 Z Z) Z (A6 (A9 Z Z) Z (B0 ?_))));refine k1 (J0 (X3 (M7 ?_)));exact C0 (rs:=[G8 t,E7 e]) (Z7 rfl rfl rfl rfl rfl) rfl
 rename_i K L M N O P Q;have F:c.Kind=9:=by
  have:=A1 i;have:=A1 K;have:=A1 L;have:=A1 M;have:=A1 N;have:=A1 O;have:=A1 P;have:=A1 Q;omega
 obtain⟨l,u,w,q⟩:=p.bases F;rw[w];refine k5 (k2 ?_);refine A7 (A6 (A8 Z Z) Z (A6 (B1 Z) Z (A6 (B2 Z Z Z) Z (A6 (B1 Z) Z (A6 (B2 Z Z Z) Z (C7 (q) Z Z Z ?_))))));rintro _ rfl;refine A6 (B5 Z Z) Z (A6 (B5 Z Z) Z (C7 (cZ l e u) Z Z Z ?_));rintro _ rfl;refine A6 (B5 Z Z) Z (A6 (B5 Z Z) Z (A6 (A9 Z Z) Z (A6 (A9 Z Z) Z (B0 ?_))));refine k1 (J0 ?_);exact C0 (rs:=[G8 (dU l),E7 e]) (Z7 rfl rfl rfl rfl rfl) rfl
theorem wJ(g:Graph)(a:Str)(c:Cmd)(j:Int)(i:Str)(q:Int)(y:a.length<=65536)(x:i.length<=16777216)(v:FnOk Tryz.prog 101 [G8 a] (fun rs=>rs=[bI c,E7 j]))
  (t:j=0->FnOk Tryz.prog 11 [G7 g,bI c] (fun rs=>rs=[G8 i,E7 q])) :
  FnOk Tryz.prog 54 [G7 g,G8 a] (fun rs=>rs=[G8 (dJ a i (if j=0 then q else j))]):=by
 obtain⟨o,d⟩:∃o:Str,o=if j=0 then i else []:=⟨_,rfl⟩
 obtain⟨f,b⟩:∃f:Int,f=if j=0 then q else j:=⟨_,rfl⟩
 obtain⟨n,e⟩:∃n:Str,n=if f≠0 then uP f else o:=⟨_,rfl⟩
 have w:=p8 f;have p:o.length<=16777216:=by
  rw[d];split
  ·exact x
  ·simp
 have r:n.length<=16777216:=by
  rw[e];split
  ·unfold uP;simp only[RK,RJ,RP];omega
  ·exact p
 have m:dJ a i f=[62,32]++a++[10]++n:=by
  unfold dJ;rw[e];by_cases h:f≠0
  ·rw[A4 h,A4 h]
  ·rw[A5 h,A5 h];have:j=0:=by
    apply Classical.byContradiction;intro s;rw[b,A5 s]at h;exact h s
   rw[d,A4 this]
 rw[<-b,m];refine FnOk.intro Tryz.func54 (by decide) Z Z Z Z ?_;refine k2 ?_;refine A7 (A6 (A9 Z Z) Z (B0 ?_));refine k1 (k2 ?_);refine A7 (A6 (A8 Z Z) Z (C7 (v) Z Z Z ?_));rintro _ rfl;refine A6 (A8 Z Z) Z (A6 (B5 Z Z) Z (A6 (B5 Z Z) Z (D3 (I5 5 Z) Z (F7 (C4 TySz.out Z Z Z Z Z Z) (A6 (A9 Z Z) Z (B0 ?_))))));refine k1 (k2 ?_);refine A7 (A6 (A9 Z Z) Z (B0 ?_));refine k1 (k2 (k2 ?_));refine A7 (A6 (A8 Z Z) Z (A6 (J4 Z Z) Z (B0 ?_)));refine k1 ?_;refine iB [(1,O4 a),(7,O4 o),(6,C8 f)] [] ?_ ?_
 ·skip;refine B7 rfl (fun l=>?_) (fun l=>?_)
  ·have k:j=0:=A0 l;have u:=t k;rw[A4 k]at d b;subst d b;skip;refine A7 (A6 (A8 Z Z) Z (A6 (F4 Z Z Z) Z (C7 (u) Z Z Z ?_)));rintro _ rfl;refine A6 (A8 Z Z) Z (A6 (B5 Z Z) Z (A6 (B5 Z Z) Z (A6 (A9 Z Z) Z (A6 (A9 Z Z) Z (B0 ?_)))));refine k1 ?_;exact Sees.of ⟨B4 rfl,B4 rfl,B4 rfl,trivial⟩ trivial
  ·have k:¬j=0:=A1 l;rw[A5 k]at d b;subst d b;refine k5 (k1 ?_);exact Sees.of ⟨B4 rfl,B4 rfl,B4 rfl,trivial⟩ trivial
 refine k2 (k2 ?_);refine A7 (A6 (A8 Z Z) Z (A6 (P6 Z Z) Z (B0 ?_)));refine k1 ?_;refine iB [(1,O4 a),(7,O4 n)] [] ?_ ?_
 ·skip;refine B7 rfl (fun l=>?_) (fun l=>?_)
  ·have k:f≠0:=A0 l;rw[A4 k]at e;rw[e];skip;refine A7 (A6 (A8 Z Z) Z (C7 (fT f) Z Z Z ?_));rintro _ rfl;refine A6 (M1 Z Z (by (simp;omega))) Z (A6 (M1 Z Z (by (simp;omega))) Z (A6 (A9 Z Z) Z (B0 ?_)));refine k1 ?_;exact Sees.of ⟨B4 rfl,B4 rfl,trivial⟩ trivial
  ·have k:¬f≠0:=A1 l;rw[A5 k]at e;rw[e];refine k5 (k1 ?_);exact Sees.of ⟨B4 rfl,B4 rfl,trivial⟩ trivial
 refine k2 ?_;refine A7 (A6 (A8 Z Z) Z (A6 (M1 Z Z (by (simp;omega))) Z (A6 (M1 Z Z (by (simp;omega))) Z (A6 (A8 Z Z) Z (A6 (M1 Z Z (by (simp;omega))) Z (A6 (A9 Z Z) Z (B0 ?_)))))));refine k1 (J0 ?_);exact C0 (rs:=[G8 ([62,32]++a++[10]++n)]) (H7 rfl rfl rfl) rfl
theorem HD{gf:Fr}{ob:Obs}{c:Str}{a:TC}(d:C2 ob 700=some (.tbx 109 [a,.buf 701 UInt8 1 yG c])) :
  AL.Met Tryz.prog 55 [.one (.ref 700 0)] gf ob [] (fun rs ob'=>rs=[.one (.p (.v (.int .i64 c.length)))]/\ob'=ob):=by
 refine AL.Met.intro Tryz.func55 (by decide) Z Z Z ?_;refine k2 ?_;refine A7 (A6 (A9 Z Z) Z (B0 ?_));refine k1 (k2 ?_);refine A7 (A6 (A8 Z Z) Z (A6 (C1 Z) Z (A6 (B1 Z) Z (A6 (cK Z d Z) Z (A6 (E8 Z (.buf _ _ _ _ _)) Z (A6 (A9 Z Z) Z (B0 ?_)))))));refine k1 (J0 ?_);exact M6 (u5 rfl rfl) (by repeat (first | exact E0 | refine E1 rfl ?_ | refine H4 _ ?_)) (fun _ _ h=>h) ⟨rfl,rfl⟩
def HF:Bool->TC
 | false=>.p (.v (.pointer none))
 | true=>.ref 700 0
theorem JI(b:Bool):HF b=.p (.v (.pointer none))\/HF b=.ref 700 0:=by cases b<;>simp[HF]
def y4(b:List Str)(i:Nat):Str:=(b.take i).flatten
theorem wK{a:List Str}{i:Nat}{o:Str}(h:a[i]?=some o):y4 a (i+1)=y4 a i++o:=by
 unfold y4;rw[List.take_add_one,h];simp
theorem oG(a:List Str)(i:Nat):(y4 a i).length<=a.flatten.length:=by
 unfold y4
 conv=>rhs;rw[<-SW i a,SZ,RK]
 omega
theorem JJ(g:Graph)(s:Str)(m c:List Str)(h:FewT g)(L:O6 g=0)(B:s.length<=536870912)(E:pS s=(m,0))(H:c.length=m.length)(K:∀(i:Nat) (d o:Str),m[i]?=some d->c[i]?=some o->FnOk Tryz.prog 54 [G7 g,G8 d] (fun rs=>rs=[G8 o]))
  (I:c.flatten.length<=16777216) (O:m.length<=1000):FnOk Tryz.prog 21 [G7 g,G8 s] (fun rs=>rs=[G8 c.flatten,E7 0]):=by
 have F:=mK g h;rw[L]at F;have G:=DJ s B;rw[E]at G;have w:c.flatten=y4 c c.length:=by unfold y4;rw[RS]
 rw[w];refine FnOk.intro Tryz.func21 (by decide) Z Z Z Z ?_;refine k2 ?_;refine A7 (A6 (A9 Z Z) Z (A6 (A9 Z Z) Z (B0 ?_)));refine k1 (k2 (k2 ?_));refine A7 (A6 (A8 Z Z) Z (C7 (F) Z Z Z ?_));rintro _ rfl;refine A6 (A9 Z Z) Z (B0 ?_);refine k1 (k2 ?_);refine A7 (A6 (A8 Z Z) Z (A6 (P6 Z Z) Z (B0 ?_)));refine k1 ?_;refine B7 rfl (fun j=>?_) (fun j=>?_)
 ·exact absurd rfl (A0 j)
 refine k5 (k1 (k2 ?_));refine A7 (A6 (A8 Z Z) Z (C7 (G) Z Z Z ?_));rintro _ rfl;refine A6 (A8 Z Z) Z (A6 (B5 Z Z) Z (A6 (B5 Z Z) Z (A6 (A9 Z Z) Z (A6 (A9 Z Z) Z (B0 ?_)))));refine k1 (k2 (k2 ?_));refine A7 (A6 (A8 Z Z) Z (A6 (P6 Z Z) Z (B0 ?_)));refine k1 ?_;refine B7 rfl (fun j=>?_) (fun j=>?_)
 ·exact absurd rfl (A0 j)
 refine k5 (k1 (k2 ?_));refine A7 (D3 (vD 700 Z) Z (B0 ?_));refine k1 (k2 (k2 ?_));refine I9 (QV 701 UInt8 1 yG 5 (kb:=700) (o:=1) Z Z Z) ?_;refine A7 (A6 (A8 Z Z) Z (A6 (E8 Z (.pure _ _ _ _)) Z (A6 (A8 Z Z) Z (B0 ?_))));refine k1 (k3 ?_);refine E3 (X:=Nat×Bool) (fun x=>([(0,E2 Commit 3 I0 g),(9,.s (.one (.ref 700 0))),(25,E2 Str 1 O7 m),(26,C8 m.length),(27,C8 x.1)],[(700,.tbx 109 [HF x.2,.buf 701 UInt8 1 yG (y4 c x.1)]),(701,.spare (y4 c x.1).length 1 5)])) (fun x=>x.1<=m.length) (fun x=>m.length-x.1) (0,false) (Nat.zero_le _) (Sees.of ⟨B4 rfl,B4 rfl,B4 rfl,B4 rfl,B4 rfl,trivial⟩ ⟨rfl,rfl,trivial⟩) ?_;rintro⟨i,a⟩ N;dsimp only at N ⊢;have ha:=JI a;have M:=oG c i;refine k2 ?_;refine A7 (A6 (F3 Z Z) Z (B0 ?_));refine k1 (k2 ?_);refine B7 rfl (fun j=>?_) (fun j=>?_);rotate_left
 ·have C:i=c.length:=by have v:=A1 j;(try dsimp only at v);omega
  rw[C];refine k6 (k2 ?_);refine A7 (qW (k:=700) (k':=701) ⟨_,rfl,rfl,rfl⟩ eT Z Z Z Z Z ha Z (A6 (A9 Z Z) Z (A6 (A9 Z Z) Z (B0 ?_))));refine k1 (J0 ?_);exact C0 (rs:=[G8 (y4 c c.length),E7 0]) (Z7 rfl rfl rfl rfl rfl) rfl
 have z:i<m.length:=by have v:=A0 j;(try dsimp only at v);omega
 obtain⟨d,q⟩:∃d,d=m[i]:=⟨_,rfl⟩
 have J:m[i]?=some d:=by rw[q];exact RG z
 obtain⟨o,P⟩:∃o,o=c[i]:=⟨_,rfl⟩
 have A:c[i]?=some o:=by rw[P];exact RG (by omega)
 have D:=K i d o J A;have B:=wK A;have y:=oG c (i+1);rw[B,RK]at y;refine k5 (k1 (k2 (k3 (k2 ?_))));refine A7 (A6 (B8 Z (.pure _ _ _ _) Z (by omega) J) Z (A6 (C3 Z Z) Z (A6 (A9 Z Z) Z (B0 ?_))));refine k1 (k2 ?_);refine A7 (A6 (A8 Z Z) Z (A6 (A8 Z Z) Z (C7 (D) Z Z Z ?_)));rintro _ rfl;refine aE (bW ⟨⟨HF a,ha,rfl⟩,rfl⟩ (by omega)) Z Z Z ?_;rintro _ _ ⟨rfl,rfl⟩;refine B0 ?_;refine k1 (k2 ?_);refine A7 (aE (HD Z) Z Z Z ?_);rintro _ _ ⟨rfl,rfl⟩;refine A6 (S0 Z Z) Z (B0 ?_);refine k1 ?_;refine B7 rfl (fun j=>?_) (fun j=>?_)
 ·exfalso;have v:=A0 j;rw[RK]at v;omega
 refine k5 (k4 (k1 ?_));refine A7 (A6 (D2 Z Z (by omega)) Z (A6 (A8 Z Z) Z (B0 ?_)));refine k1 ?_;exact⟨(i+1,true),z,by dsimp only;omega,(by dsimp only;rw[B];exact (Sees.of ⟨B4 rfl,B4 rfl,B4 rfl,B4 rfl,B4 rfl,trivial⟩ ⟨rfl,rfl,trivial⟩))⟩
theorem check12_good{p:Patch}(b:¬aZ p≠0):kI p.Hunks=true:=by
 by_cases a:kI p.Hunks=true
 ·exact a
 ·exfalso;apply b;unfold aZ;split
  ·decide
  ·rw[A4 (by simpa using a)];decide
theorem T6(n:Int):FnOk Tryz.prog 242 [E7 n] (fun b=>b=[G5 (decide (H5 n))]):=by
 refine FnOk.intro Tryz.func242 (by decide) Z Z Z Z ?_;refine k2 ?_;refine A7 (A6 (A9 Z Z) Z (B0 ?_));refine k1 (k2 ?_);refine A7 (A6 (A8 Z Z) Z (A6 (r5 Z Z) Z (A6 (A8 Z Z) Z (B3 Z Z Z Z (fun a=>by rw[a];exact A8 Z Z) ?_))));refine B3 Z Z Z Z (fun a=>by rw[a];exact kY Z Z) ?_;refine A6 (B9 Z (fun h=>by first | rfl | (rw[h];rfl)) (fun h=>by first | rfl | (rw[h];rfl))) Z ?_;refine A6 (A9 Z Z) Z (B0 ?_);refine k1 (J0 ?_);refine C0 (H7 Z Z Z) ?_;simp only[and_pick];rfl
theorem DK(l:List Change)(m n:Int)(K:l.length<=1073741824):FnOk Tryz.prog 185 [pChanges l,E7 m,E7 n] (fun rs=>rs=[E7 (y7 l m n)]):=by
 refine FnOk.intro Tryz.func185 (by decide) Z Z Z Z ?_;refine k2 ?_;refine A7 (A6 (A9 Z Z) Z (B0 ?_));refine k1 (k2 (k2 ?_));refine A7 (A6 (A8 Z Z) Z (C7 (T6 m) Z Z Z ?_));rintro _ rfl;refine A6 (M8 Z) Z (A6 (A8 Z Z) Z (B3 Z Z Z Z (fun a=>by rw[a];exact A8 Z Z) ?_));refine B3 Z Z Z Z (fun a=>by have o:=a;(try simp at o);rw[a];exact K4 (T6 n) Z Z) ?_;refine B3 Z Z Z Z (fun a=>by rw[a];exact M8 Z) ?_;refine A6 (B9 Z (fun h=>by first | rfl | (rw[h];rfl)) (fun h=>by first | rfl | (rw[h];rfl))) Z ?_;refine B0 ?_;refine k1 ?_;refine B7 rfl (fun d=>?_) (fun d=>?_)
 ·simp only[<-decide_not,or_pick]at d;have h:¬H5 m\/¬H5 n:=A0 d;refine k2 ?_;refine A7 (A6 (A9 Z Z) Z (B0 ?_));refine k1 (J0 (M7 ?_));exact C0 (H7 rfl rfl rfl) (by rw[y7,A4 h])
 simp only[<-decide_not,or_pick]at d;have h:¬(¬H5 m\/¬H5 n):=A1 d;have C:0<=m/\m<=4096:=by by_cases C:H5 m;exact C;exact absurd (.inl C) h
 have D:0<=n/\n<=4096:=by by_cases D:H5 n;exact D;exact absurd (.inr D) h
 refine k5 (k1 (k2 ?_));refine A7 (A6 (A9 Z Z) Z (A6 (A9 Z Z) Z (B0 ?_)));refine k1 (k2 (k2 ?_));refine A7 (A6 (A8 Z Z) Z (A6 (E8 Z (.pure _ _ _ _)) Z (A6 (A8 Z Z) Z (B0 ?_))));refine k1 (k3 ?_);refine E3 (X:=Nat×Int×Int) (fun x=>([(1,C8 m),(2,C8 n),(7,C8 x.2.1),(8,C8 x.2.2),(20,E2 Change 4 changeC l),(21,C8 l.length),(22,C8 x.1)],[])) (fun x=>x.1<=l.length/\I4 0 0 0 l m n=I4 x.1 x.2.1 x.2.2 (l.drop x.1) m n/\0<=x.2.1/\x.2.1<=8192/\0<=x.2.2/\x.2.2<=8192) (fun x=>l.length-x.1) (0,0,0) ⟨Nat.zero_le _,rfl,by decide,by decide,by decide,by decide⟩ (Sees.of ⟨B4 rfl,B4 rfl,B4 rfl,B4 rfl,B4 rfl,B4 rfl,B4 rfl,trivial⟩ trivial) ?_;rintro⟨k,i,j⟩ ⟨J,g,H,z,I,A⟩;dsimp only at J g H z I A ⊢;refine k2 ?_;refine A7 (A6 (F3 Z Z) Z (B0 ?_));refine k1 (k2 ?_);refine B7 rfl (fun d=>?_) (fun d=>?_)
 ·have y:k<l.length:=by have:=A0 d;omega
  have F:l[k]?=some l[k]:=by simp[y]
  obtain⟨c,G⟩:∃c,c=l[k]:=⟨_,rfl⟩
  rw[RO y,I4]at g;rw[<-G]at F g;refine k5 (k1 (k2 (k3 (k2 ?_))));refine A7 (A6 (A8 Z Z) Z (A6 (B8 Z (.pure _ _ _ _) Z (by omega) F) Z (A6 (G3 Z Z) Z (D3 (I5 10 Z) Z (A6 (A9 Z Z) Z (F7 (C4 TySz.out Z Z Z Z Z Z) (B0 ?_)))))));refine k1 (k2 (k2 ?_));refine A7 (A6 (B1 Z) Z (A6 (B2 Z Z Z) Z (C7 (T6 c.Old) Z Z Z ?_)));rintro _ rfl;refine A6 (M8 Z) Z (A6 (A8 Z Z) Z (B3 Z Z Z Z (fun a=>by rw[a];exact B1 Z) ?_));refine B3 Z Z Z Z (fun a=>by rw[a];exact B2 Z Z Z) ?_;refine B3 Z Z Z Z (fun a=>by have o:=a;(try simp at o);rw[a];exact K4 (T6 c.OldLen) Z Z) ?_;refine B3 Z Z Z Z (fun a=>by rw[a];exact M8 Z) ?_;refine A6 (B9 Z (fun h=>by first | rfl | (rw[h];rfl)) (fun h=>by first | rfl | (rw[h];rfl))) Z ?_;refine A6 (A8 Z Z) Z (B3 Z Z Z Z (fun a=>by rw[a];exact B1 Z) ?_);refine B3 Z Z Z Z (fun a=>by rw[a];exact B2 Z Z Z) ?_;refine B3 Z Z Z Z (fun a=>by have o:=a;(try simp at o);rw[a];exact K4 (T6 c.New) Z Z) ?_;refine B3 Z Z Z Z (fun a=>by rw[a];exact M8 Z) ?_;refine A6 (B9 Z (fun h=>by first | rfl | (rw[h];rfl)) (fun h=>by first | rfl | (rw[h];rfl))) Z ?_;refine A6 (A8 Z Z) Z (B3 Z Z Z Z (fun a=>by rw[a];exact B1 Z) ?_);refine B3 Z Z Z Z (fun a=>by rw[a];exact B2 Z Z Z) ?_;refine B3 Z Z Z Z (fun a=>by have o:=a;(try simp at o);rw[a];exact K4 (T6 c.NewLen) Z Z) ?_;refine B3 Z Z Z Z (fun a=>by rw[a];exact M8 Z) ?_;refine A6 (B9 Z (fun h=>by first | rfl | (rw[h];rfl)) (fun h=>by first | rfl | (rw[h];rfl))) Z ?_;refine A6 (A8 Z Z) Z (B3 Z Z Z Z (fun a=>by rw[a];exact B1 Z) ?_);refine B3 Z Z Z Z (fun a=>by rw[a];exact B2 Z Z Z) ?_;refine B3 Z Z Z Z (fun a=>by rw[a];exact B1 Z) ?_;refine B3 Z Z Z Z (fun a=>by rw[a];exact B2 Z Z Z) ?_;refine B3 Z Z Z Z (fun a=>by have o:=a;(try simp at o);simp[H5]at o;rw[a];exact D2 Z Z (by omega)) ?_;refine B3 Z Z Z Z (fun a=>by rw[a];exact J4 Z Z) ?_;refine A6 (B9 Z (fun h=>by first | rfl | (rw[h];rfl)) (fun h=>by first | rfl | (rw[h];rfl))) Z ?_;refine B0 ?_;refine k1 ?_;refine B7 rfl (fun d=>?_) (fun d=>?_)
  ·simp only[<-decide_not,or_pick,and_pick]at d;have v:=A0 d;have hb:oU k i j c:=.inl (.inl (.inl v));refine k2 ?_;refine A7 (A6 (A9 Z Z) Z (B0 ?_));refine k1 (J0 (M7 (X3 (M7 (M7 (X3 (M7 ?_)))))));exact C0 (H7 rfl rfl rfl) (by rw[y7,A5 ‹¬(¬H5 m\/¬H5 n)›,g,A3 (fun w=>w hb)];rfl)
  simp only[<-decide_not,or_pick,and_pick]at d;have v:=A1 d;have L:(0<=c.Old/\c.Old<=4096)/\(0<=c.OldLen/\c.OldLen<=4096)/\(0<=c.New/\c.New<=4096)/\(0<=c.NewLen/\c.NewLen<=4096)/\c.OldLen+c.NewLen≠0:=by
   by_cases E:H5 c.Old<;>by_cases a2:H5 c.OldLen<;>by_cases a3:H5 c.New<;>by_cases a4:H5 c.NewLen<;>simp[E,a2,a3,a4]at v;exact⟨E,a2,a3,a4,v⟩
  refine k5 (k1 (k2 ?_));refine A7 (A6 (B1 Z) Z (A6 (B2 Z Z Z) Z (A6 (A8 Z Z) Z (A6 (P2 Z Z (by omega)) Z (A6 (A9 Z Z) Z (B0 ?_))))));refine k1 (k2 (k2 ?_));refine A7 (A6 (A8 Z Z) Z (A6 (B1 Z) Z (A6 (B2 Z Z Z) Z (A6 (A8 Z Z) Z (A6 (P2 Z Z (by omega)) Z (A6 (P6 Z Z) Z (A6 (A8 Z Z) Z (B3 Z Z Z Z (fun a=>by rw[a];exact A8 Z Z) ?_))))))));refine B3 Z Z Z Z (fun a=>by rw[a];exact A8 Z Z) ?_;refine B3 Z Z Z Z (fun a=>by rw[a];exact BH Z Z) ?_;refine B3 Z Z Z Z (fun a=>by rw[a];exact F3 Z Z) ?_;refine A6 (B9 Z (fun h=>by first | rfl | (rw[h];rfl)) (fun h=>by first | rfl | (rw[h];rfl))) Z ?_;refine B0 ?_;refine k1 ?_;have f:∀b:Int,(c.Old-i<if (1:Int)<(k:Int) then 1 else (k:Int))↔(c.Old<i\/(0<(k:Int)/\c.Old=i)):=by intro _;split<;>omega
  refine B7 rfl (fun d=>?_) (fun d=>?_)
  ·simp only[or_pick]at d;have s:=A0 d;have hb:oU k i j c:=by
    rcases s with s | s
    ·exact .inl (.inl (.inr s))
    ·rcases (f 0).1 s with t | t
     ·exact .inl (.inr t)
     ·exact .inr t
   refine k2 ?_;refine A7 (A6 (A9 Z Z) Z (B0 ?_));refine k1 (J0 (M7 (X3 (M7 (M7 (X3 (M7 ?_)))))));exact C0 (H7 rfl rfl rfl) (by rw[y7,A5 ‹¬(¬H5 m\/¬H5 n)›,g,A3 (fun w=>w hb)];rfl)
  ·simp only[or_pick]at d;have s:=A1 d;have hb:¬oU k i j c:=by
    rintro (((q | q) | q) | q)
    ·exact v q
    ·exact s (.inl q)
    ·exact s (.inr ((f 0).2 (.inl q)))
    ·exact s (.inr ((f 0).2 (.inr q)))
   rw[A2 hb,Bool.true_and]at g;refine k5 (k1 ?_);refine F1 (by kernel_rfl) (by kernel_rfl) (B6 (B1 Z) Z Z (B6 (B2 Z Z Z) Z Z (B6 (B1 Z) Z Z (B6 (B2 Z Z Z) Z Z (B6 (D2 Z Z (by omega)) Z Z (B6 (B1 Z) Z Z (B6 (B2 Z Z Z) Z Z (B6 (B1 Z) Z Z (B6 (B2 Z Z Z) Z Z (B6 (D2 Z Z (by omega)) Z Z (B6 (A9 Z Z) Z Z (B6 (A9 Z Z) Z Z (T3 ?_)))))))))))));refine k4 (k1 ?_);refine A7 (A6 (D2 Z Z (by omega)) Z (A6 (A8 Z Z) Z (B0 ?_)));refine k1 ?_;exact⟨(k+1,c.Old+c.OldLen,c.New+c.NewLen),⟨by dsimp only;omega,g,by dsimp only;omega,by dsimp only;omega,by dsimp only;omega,by dsimp only;omega⟩,by dsimp only;omega,Sees.of ⟨B4 rfl,B4 rfl,B4 rfl,B4 rfl,B4 rfl,B4 rfl,B4 rfl,trivial⟩ trivial⟩
 ·have B:k=l.length:=by have:=A1 d;omega
  rw[B,RX (Nat.le_refl _),I4]at g;refine k6 (k2 (k2 ?_));refine A7 (A6 (A8 Z Z) Z (A6 (A8 Z Z) Z (A6 (P2 Z Z (by omega)) Z (A6 (A8 Z Z) Z (A6 (A8 Z Z) Z (A6 (P2 Z Z (by omega)) Z (A6 (P6 Z Z) Z (A6 (A8 Z Z) Z (B3 Z Z Z Z (fun a=>by rw[a];exact A8 Z Z) ?_)))))))));refine B3 Z Z Z Z (fun a=>by rw[a];exact A8 Z Z) ?_;refine B3 Z Z Z Z (fun a=>by rw[a];exact F3 Z Z) ?_;refine A6 (B9 Z (fun h=>by first | rfl | (rw[h];rfl)) (fun h=>by first | rfl | (rw[h];rfl))) Z ?_;refine B0 ?_;refine k1 ?_;refine B7 rfl (fun d=>?_) (fun d=>?_)
  ·have t:=A0 (or_pick.symm.trans d);refine k2 ?_;refine A7 (A6 (A9 Z Z) Z (B0 ?_));refine k1 (J0 (M7 ?_));exact C0 (H7 rfl rfl rfl) (by rw[y7,A5 h,g,A3 (fun w=>w t)];rfl)
  ·have t:=A1 (or_pick.symm.trans d);refine k5 (k1 (k2 ?_));refine A7 (A6 (A9 Z Z) Z (B0 ?_));refine k1 (J0 ?_);exact C0 (H7 rfl rfl rfl) (by rw[y7,A5 h,g,A2 t];rfl)
theorem DL{gf:Fr}{ob:Obs}(p:List Span):AL.Met Tryz.prog 292 [.one (.p (.list Span 2 spanC p))] gf ob [] (fun b ob'=>b=[.one (.full Span 2 spanC p)]/\ob'=ob):=by
 refine AL.Met.intro Tryz.func292 (by decide) Z Z Z ?_;refine k2 ?_;refine A7 (A6 (A9 Z Z) Z (B0 ?_));refine k1 (k2 ?_);refine A7 (A6 (A8 Z Z) Z (A6 (A8 Z Z) Z (A6 (E8 Z (.pure _ _ _ _)) Z (A6 (A8 Z Z) Z (A6 (E8 Z (.pure _ _ _ _)) Z (A6 (yU Z (.pure _ _ _ _) Z Z (by omega) (by omega) (by first | rfl | omega)) Z ?_))))));refine A6 (A9 Z Z) Z (B0 ?_);rw[show p.take (p.length:Int).toNat=p by simp];refine k1 (J0 ?_);exact M6 (u5 rfl rfl) (by repeat (first | exact E0 | refine E1 rfl ?_ | refine H4 _ ?_)) (fun _ _ h=>h) ⟨rfl,rfl⟩
def v8(i j:Int):List Span->List Change
 | []=>[]
 | x::r=>(if x.From>i\/x.To>j then [⟨i,x.From-i,j,x.To-j⟩] else [])++v8 (x.From+1) (x.To+1) r
theorem lE(m n:Int):∀(p:List Span) (i j:Int),v8 i j (p++[⟨m,n⟩])=R8 i j p m n
 | [],i,j=>by simp[v8,R8]
 | x::r,i,j=>by
  rw[SD,v8,R8,lE m n r]
theorem qE(p:List Span)(m n:Int)(T:p.length<=536870912)(I:-1099511627776<=m/\m<=1099511627776)(J:-1099511627776<=n/\n<=1099511627776)(hb:∀s∈p,-1099511627776<=s.From/\s.From<=1099511627776 /\ -1099511627776<=s.To/\s.To<=1099511627776) :
  FnOk Tryz.prog 243 [pSpans p,E7 m,E7 n] (fun S=>S=[pChanges (dA p m n)]):=by
 refine FnOk.intro Tryz.func243 (by decide) Z Z Z Z ?_;refine k2 ?_;refine A7 (A6 (A9 Z Z) Z (B0 ?_));refine k1 (k2 ?_);refine A7 (D3 (u0 7 _ changeC Z) Z (B0 ?_));refine k1 (k2 ?_);refine A7 (A6 (A9 Z Z) Z (A6 (A9 Z Z) Z (B0 ?_)));refine k1 (k2 (k2 ?_));refine A7 (A6 (A8 Z Z) Z (aE (DL p) Z Z Z ?_));rintro _ _ ⟨rfl,rfl⟩;refine A6 (A8 Z Z) Z (A6 (A8 Z Z) Z (A6 (H0 Z) Z (A6 (D9 (c:=spanC) (ys:=[⟨m,n⟩]) (D4 Z Z Z Z H3) Z Z Z) Z (D3 (qB 18 Z Z (.pure _ _ _ _) (by simp;omega) (by simp) Z) Z (A6 (E8 Z (.buf _ _ _ _ _)) Z (A6 (A8 Z Z) Z (B0 ?_)))))));obtain⟨q,B⟩:∃q,q=p++[(⟨m,n⟩:Span)]:=⟨_,rfl⟩
 have R:q.length=p.length+1:=by rw[B];simp
 have G:∀s∈q,-1099511627776<=s.From/\s.From<=1099511627776 /\ -1099511627776<=s.To/\s.To<=1099511627776:=by
  intro s L;rw[B]at L;rcases RL.1 L with h | h
  ·exact hb s h
  ·simp at h;subst h;exact⟨I.1,I.2,J.1,J.2⟩
 have A:dA p m n=v8 0 0 q:=by rw[B,lE];rfl
 rw[<-B];refine k1 (k3 ?_);refine E3 (X:=Nat×Int×Int×List Change) (fun x=>([(7,.s (.one (.buf 7 Change 4 changeC x.2.2.2))),(8,C8 x.2.1),(9,C8 x.2.2.1),(18,.s (.one (.buf 18 Span 2 spanC q))),(19,C8 q.length),(20,C8 x.1)],[(7,.spare x.2.2.2.length 4 253)])) (fun x=>x.1<=q.length/\x.2.2.2++v8 x.2.1 x.2.2.1 (q.drop x.1)=dA p m n/\(-1099511627777<=x.2.1/\x.2.1<=1099511627777)/\(-1099511627777<=x.2.2.1/\x.2.2.1<=1099511627777)/\x.2.2.2.length<=x.1) (fun x=>q.length-x.1) (0,0,0,[]) ⟨Nat.zero_le _,A.symm,by decide,by decide,Nat.le_refl _⟩ (Sees.of ⟨B4 rfl,B4 rfl,B4 rfl,B4 rfl,B4 rfl,B4 rfl,trivial⟩ ⟨rfl,trivial⟩) ?_;rintro⟨k,i,j,H⟩ ⟨Q,w,O,P,F⟩;dsimp only at Q w O P F ⊢;refine k2 ?_;refine A7 (A6 (F3 Z Z) Z (B0 ?_));refine k1 (k2 ?_);refine B7 rfl (fun l=>?_) (fun l=>?_)
 ·have z:k<q.length:=by have:=A0 l;omega
  have M:q[k]?=some q[k]:=by simp[z]
  have D:=G _ (RM z);obtain⟨c,N⟩:∃c,c=q[k]:=⟨_,rfl⟩
  rw[RO z,v8]at w;rw[<-N]at M w D;refine k5 (k1 (k2 (k3 (k2 ?_))));refine A7 (A6 (B8 Z (.buf _ _ _ _ _) Z (by omega) M) Z (A6 (G3 Z Z) Z (D3 (I5 11 Z) Z (F7 (C4 TySz.out Z Z Z Z Z Z) (B0 ?_)))));refine N7 ?_;obtain⟨g,d⟩:∃g,g=H++(if c.From>i\/c.To>j then [⟨i,c.From-i,j,c.To-j⟩] else []):=⟨_,rfl⟩
  have K:g.length<=k+1:=by rw[d,RK];split<;>simp<;>omega
  rw[<-RT,<-d]at w;refine nE [(7,.s (.one (.buf 7 Change 4 changeC g))),(8,C8 i),(9,C8 j),(11,.s (.one (.ref 11 0))),(18,.s (.one (.buf 18 Span 2 spanC q))),(19,C8 q.length),(20,C8 k)] [(7,.spare g.length 4 253),(11,.box [.p (.v (.int .i64 c.From)),.p (.v (.int .i64 c.To))])] ?_ ?_
  ·refine k2 ?_;refine A7 (A6 (B1 Z) Z (A6 (B2 Z Z Z) Z (A6 (A8 Z Z) Z (A6 (S0 Z Z) Z (A6 (A8 Z Z) Z (B3 Z Z Z Z (fun y=>by rw[y];exact B1 Z) ?_))))));refine B3 Z Z Z Z (fun y=>by rw[y];exact B2 Z Z Z) ?_;refine B3 Z Z Z Z (fun y=>by rw[y];exact A8 Z Z) ?_;refine B3 Z Z Z Z (fun y=>by rw[y];exact S0 Z Z) ?_;refine A6 (B9 Z (fun h=>by first | rfl | (rw[h];rfl)) (fun h=>by first | rfl | (rw[h];rfl))) Z ?_;refine B0 ?_;refine k1 ?_;refine B7 rfl (fun l=>?_) (fun l=>?_)
   ·simp only[or_pick]at l;have C:=A0 l;rw[A4 C]at d;skip;refine A7 (A6 (A8 Z Z) Z (A6 (A8 Z Z) Z (A6 (B1 Z) Z (A6 (B2 Z Z Z) Z (A6 (A8 Z Z) Z (A6 (P2 Z Z (by omega)) Z (A6 (A8 Z Z) Z (A6 (B1 Z) Z (A6 (B2 Z Z Z) Z (A6 (A8 Z Z) Z (A6 (P2 Z Z (by omega)) Z (A6 (H0 Z) Z (A6 (D9 (c:=changeC) (ys:=[⟨i,c.From-i,j,c.To-j⟩]) (D4 Z Z Z Z H3) Z Z Z) Z (D3 (K8 Z Z Z (.pure _ _ _ _) (by (simp only[RJ,RP];omega)) Z) Z (A6 (A9 Z Z) Z (B0 ?_))))))))))))))));refine k1 ?_;rw[d];exact Sees.of ⟨B4 rfl,B4 rfl,B4 rfl,B4 rfl,B4 rfl,B4 rfl,B4 rfl,trivial⟩ ⟨rfl,rfl,trivial⟩
   ·simp only[or_pick]at l;have C:=A1 l;rw[A5 C,SJ]at d;refine k5 (k1 ?_);rw[d];exact Sees.of ⟨B4 rfl,B4 rfl,B4 rfl,B4 rfl,B4 rfl,B4 rfl,B4 rfl,trivial⟩ ⟨rfl,rfl,trivial⟩
  ·skip;refine F1 (by kernel_rfl) (by kernel_rfl) (B6 (B1 Z) Z Z (B6 (B2 Z Z Z) Z Z (B6 (D2 Z Z (by omega)) Z Z (B6 (B1 Z) Z Z (B6 (B2 Z Z Z) Z Z (B6 (D2 Z Z (by omega)) Z Z (B6 (A9 Z Z) Z Z (B6 (A9 Z Z) Z Z (T3 ?_)))))))));refine k4 (k1 ?_);refine A7 (A6 (D2 Z Z (by omega)) Z (A6 (A8 Z Z) Z (B0 ?_)));refine k1 ?_;exact⟨(k+1,c.From+1,c.To+1,g),⟨by dsimp only;omega,w,⟨by dsimp only;omega,by dsimp only;omega⟩,⟨by dsimp only;omega,by dsimp only;omega⟩,by dsimp only;omega⟩,by dsimp only;omega,Sees.of ⟨B4 rfl,B4 rfl,B4 rfl,B4 rfl,B4 rfl,B4 rfl,trivial⟩ ⟨rfl,trivial⟩⟩
 ·have E:k=q.length:=by have:=A1 l;omega
  rw[E,RX (Nat.le_refl _),v8,SJ]at w;refine k6 (k2 ?_);refine A7 (A6 (A8 Z Z) Z (A6 (A9 Z Z) Z (B0 ?_)));refine k1 (J0 ?_);exact C0 (H7 rfl rfl rfl) (by rw[<-w])
theorem wL{m n:Int}:∀{p:List Span} {i j:Int},Asc m n i j p->∀k (h:k<p.length),(k=0->i<=p[k].From/\j<=p[k].To)/\(∀a:0<k,p[k-1].From<p[k].From/\p[k-1].To<p[k].To)/\p[k].From<m/\p[k].To<n
 | [],_,_,_,k,h=>by simp at h
 | x::r,i,j,ha,k,h=>by
  obtain⟨f,g,b⟩:=ha;cases k with
  | zero=>have:=b.le;exact⟨fun _=>⟨f,g⟩,fun a=>absurd a (by omega),by show x.From<m;omega,by show x.To<n;omega⟩
  | succ k =>
   obtain⟨g1,c,d,e⟩:=wL b k (by simpa using h);refine⟨fun a=>absurd a (by omega),fun _=>?_,by simpa using d,by simpa using e⟩;cases k with
   | zero =>
    obtain⟨q,s⟩:=g1 rfl;have l:0<r.length:=by simpa using h
    show x.From<r[0].From/\x.To<r[0].To;omega
   | succ k=>simpa using c (by omega)
theorem qF(p:List Span)(m n:Int)(R:H5 m)(S:H5 n)(ha:Asc m n 0 0 p)(U:p.length<=536870912) :
  FnOk Tryz.prog 180 [pSpans p,E7 m,E7 n] (fun Y=>Y=[pChanges (dA p m n),E7 0]):=by
 obtain⟨C,D⟩:=R;obtain⟨E,G⟩:=S;have H:=wL ha;have hb:∀s∈p,0<=s.From/\s.From<=4096/\0<=s.To/\s.To<=4096:=by
  have I:∀(p:List Span) (i j:Int),Asc m n i j p->0<=i->0<=j->∀s∈p,0<=s.From/\s.From<=4096/\0<=s.To/\s.To<=4096:=by
   intro p;induction p with
   | nil=>intro _ _ _ _ _ s z;simp at z
   | cons x r W =>
    rintro i j ⟨h1,h2,J⟩ h4 h5 s z;have:=J.le;rcases RN.1 z with rfl | z
    ·omega
    ·exact W _ _ J (by omega) (by omega) s z
  exact I p 0 0 ha (by omega) (by omega)
 refine FnOk.intro Tryz.func180 (by decide) Z Z Z Z ?_;refine k2 ?_;refine A7 (A6 (A9 Z Z) Z (A6 (A9 Z Z) Z (B0 ?_)));refine k1 (k2 (k2 ?_));refine A7 (A6 (A8 Z Z) Z (C7 (T6 m) Z Z Z ?_));rintro _ rfl;refine A6 (M8 Z) Z (A6 (A8 Z Z) Z (B3 Z Z Z Z (fun d=>by rw[d];exact A8 Z Z) ?_));refine B3 Z Z Z Z (fun d=>by have V:=d;(try simp at V);rw[d];exact K4 (T6 n) Z Z) ?_;refine B3 Z Z Z Z (fun d=>by rw[d];exact M8 Z) ?_;refine A6 (B9 Z (fun h=>by first | rfl | (rw[h];rfl)) (fun h=>by first | rfl | (rw[h];rfl))) Z ?_;refine B0 ?_;refine k1 ?_;refine B7 rfl (fun w=>?_) (fun w=>?_)
 ·exfalso;simp only[<-decide_not,or_pick]at w;have h:¬H5 m\/¬H5 n:=A0 w;rcases h with h | h
  ·exact h ⟨C,D⟩
  ·exact h ⟨E,G⟩
 refine Y4 [(0,E2 Span 2 spanC p),(1,C8 m),(2,C8 n)] [] (Sees.of ⟨B4 rfl,B4 rfl,B4 rfl,trivial⟩ trivial) ?_;refine k5 (k1 (k2 ?_));refine A7 (A6 (H0 Z) Z (D3 (I5 8 Z) Z (F7 (C4 TySz.out Z Z Z Z Z Z) (B0 ?_))));refine k1 (k2 (k2 ?_));refine A7 (A6 (A8 Z Z) Z (A6 (E8 Z (.pure _ _ _ _)) Z (A6 (A8 Z Z) Z (B0 ?_))));refine k1 (k3 ?_);obtain⟨a,g⟩:∃a:Nat->Span,a=fun k=>if k=0 then ⟨-1,-1⟩ else p.getD (k-1) ⟨0,0⟩:=⟨_,rfl⟩
 refine E3 (X:=Nat) (fun k=>([(0,E2 Span 2 spanC p),(1,C8 m),(2,C8 n),(8,.s (.one (.ref 8 0))),(20,E2 Span 2 spanC p),(21,C8 p.length),(22,C8 k)],[(8,.box [.p (.v (.int .i64 (a k).From)),.p (.v (.int .i64 (a k).To))])])) (fun k=>k<=p.length) (fun k=>p.length-k) 0 (Nat.zero_le _) ?_ ?_
 ·rw[show a 0=⟨-1,-1⟩ by rw[g];rfl];exact Sees.of ⟨B4 rfl,B4 rfl,B4 rfl,B4 rfl,B4 rfl,B4 rfl,B4 rfl,trivial⟩ ⟨rfl,trivial⟩
 intro k Q;dsimp only at Q ⊢;refine k2 ?_;refine A7 (A6 (F3 Z Z) Z (B0 ?_));refine k1 (k2 ?_);refine B7 rfl (fun w=>?_) (fun w=>?_)
 ·have y:k<p.length:=by have:=A0 w;omega
  have K:p[k]?=some p[k]:=by simp[y]
  obtain⟨g1,M,N,O⟩:=H k y;have q:a (k+1)=p[k]:=by rw[g];simp[y]
  have l:(a k).From<p[k].From/\(a k).To<p[k].To:=by
   rw[g];by_cases A:k=0
   ·have:=g1 A;simp only[A,if_true]at this ⊢;omega
   ·have:=M (by omega);simp only[A,if_false];have e:p.getD (k-1) ⟨0,0⟩=p[k-1]:=by simp[show k-1<p.length by omega]
    rw[e];exact this
  obtain⟨c,P⟩:∃c,c=p[k]:=⟨_,rfl⟩
  rw[<-P]at K N O q l;obtain⟨L,B⟩:∃L,L=a k:=⟨_,rfl⟩
  rw[<-B]at l ⊢;refine k5 (k1 (k2 (k3 (k2 ?_))));refine A7 (A6 (B8 Z (.pure _ _ _ _) Z (by omega) K) Z (A6 (G3 Z Z) Z (D3 (I5 10 Z) Z (F7 (C4 TySz.out Z Z Z Z Z Z) (B0 ?_)))));refine k1 (k2 (k2 ?_));refine A7 (A6 (B1 Z) Z (A6 (B2 Z Z Z) Z (A6 (B1 Z) Z (A6 (B2 Z Z Z) Z (A6 (kY Z Z) Z (A6 (A8 Z Z) Z (B3 Z Z Z Z (fun d=>by rw[d];exact B1 Z) ?_)))))));refine B3 Z Z Z Z (fun d=>by rw[d];exact B2 Z Z Z) ?_;refine B3 Z Z Z Z (fun d=>by rw[d];exact A8 Z Z) ?_;refine B3 Z Z Z Z (fun d=>by rw[d];exact r5 Z Z) ?_;refine A6 (B9 Z (fun h=>by first | rfl | (rw[h];rfl)) (fun h=>by first | rfl | (rw[h];rfl))) Z ?_;refine A6 (A8 Z Z) Z (B3 Z Z Z Z (fun d=>by rw[d];exact B1 Z) ?_);refine B3 Z Z Z Z (fun d=>by rw[d];exact B2 Z Z Z) ?_;refine B3 Z Z Z Z (fun d=>by rw[d];exact B1 Z) ?_;refine B3 Z Z Z Z (fun d=>by rw[d];exact B2 Z Z Z) ?_;refine B3 Z Z Z Z (fun d=>by rw[d];exact kY Z Z) ?_;refine A6 (B9 Z (fun h=>by first | rfl | (rw[h];rfl)) (fun h=>by first | rfl | (rw[h];rfl))) Z ?_;refine A6 (A8 Z Z) Z (B3 Z Z Z Z (fun d=>by rw[d];exact B1 Z) ?_);refine B3 Z Z Z Z (fun d=>by rw[d];exact B2 Z Z Z) ?_;refine B3 Z Z Z Z (fun d=>by rw[d];exact A8 Z Z) ?_;refine B3 Z Z Z Z (fun d=>by rw[d];exact r5 Z Z) ?_;refine A6 (B9 Z (fun h=>by first | rfl | (rw[h];rfl)) (fun h=>by first | rfl | (rw[h];rfl))) Z ?_;refine B0 ?_;refine k1 ?_;refine B7 rfl (fun w=>?_) (fun w=>?_)
  ·exfalso;simp only[or_pick]at w;have:=A0 w;omega
  ·refine k5 (k1 ?_);refine A7 (A6 (F4 Z Z Z) Z (F7 (C4 TySz.out Z Z Z Z Z Z) (B0 ?_)));refine k4 (k1 ?_);refine A7 (A6 (D2 Z Z (by omega)) Z (A6 (A8 Z Z) Z (B0 ?_)));refine k1 ?_;refine⟨k+1,by omega,by omega,?_⟩;rw[q];exact Sees.of ⟨B4 rfl,B4 rfl,B4 rfl,B4 rfl,B4 rfl,B4 rfl,B4 rfl,trivial⟩ ⟨rfl,trivial⟩
 ·refine k6 (k2 ?_);refine A7 (A6 (A8 Z Z) Z (A6 (A8 Z Z) Z (A6 (A8 Z Z) Z (C7 (qE p m n U (by omega) (by omega) (fun s z=>by have:=hb s z;omega)) Z Z Z ?_))));rintro _ rfl;refine A6 (A9 Z Z) Z (A6 (A9 Z Z) Z (B0 ?_));refine k1 (J0 ?_);exact C0 (Z7 rfl rfl rfl rfl rfl) rfl
theorem iI{l:List Int}{i:Nat}(h:i<l.length):l[i]?=some (l.getD i 0):=by simp[h]
theorem wM(a b:List Int):FnOk Tryz.prog 179 [O5 a,O5 b] (fun d=>d=[G5 (decide ((a.length:Int)<=4096/\(b.length:Int)<=4096))]):=by
 refine FnOk.intro Tryz.func179 (by decide) Z Z Z Z ?_;refine k2 ?_;refine A7 (A6 (A9 Z Z) Z (B0 ?_));refine k1 (k2 ?_);refine A7 (A6 (A8 Z Z) Z (A6 (E8 Z (.pure _ _ _ _)) Z (A6 (kY Z Z) Z (A6 (A8 Z Z) Z (B3 Z Z Z Z (fun c=>by rw[c];exact A8 Z Z) ?_)))));refine B3 Z Z Z Z (fun c=>by rw[c];exact E8 Z (.pure _ _ _ _)) ?_;refine B3 Z Z Z Z (fun c=>by rw[c];exact kY Z Z) ?_;refine A6 (B9 Z (fun h=>by first | rfl | (rw[h];rfl)) (fun h=>by first | rfl | (rw[h];rfl))) Z ?_;refine A6 (A9 Z Z) Z (B0 ?_);refine k1 (J0 ?_);exact C0 (H7 rfl rfl rfl) (by simp only[and_pick])
theorem qG(a b:List Int)(ha:a.length<=1073741824):FnOk Tryz.prog 244 [O5 a,O5 b] (fun s=>s=[E7 (Q6 a b)]):=by
 refine FnOk.intro Tryz.func244 (by decide) Z Z Z Z ?_;refine k2 ?_;refine A7 (A6 (A9 Z Z) Z (B0 ?_));refine k1 (k2 ?_);refine A7 (A6 (A9 Z Z) Z (B0 ?_));refine k1 (k2 (k3 ?_));refine E3 (X:=Nat) (fun k=>([(0,E2 Int 1 G4 a),(1,E2 Int 1 G4 b),(5,C8 k)],[])) (fun k=>k<=a.length/\k<=b.length/\Q6 a b=k+Q6 (a.drop k) (b.drop k)) (fun k=>a.length-k) 0 ⟨Nat.zero_le _,Nat.zero_le _,by simp⟩ (Sees.of ⟨B4 rfl,B4 rfl,B4 rfl,trivial⟩ trivial) ?_;rintro k ⟨q,l,i⟩;dsimp only at q l i ⊢;refine k2 (k2 ?_);refine F1 (by kernel_rfl) (by kernel_rfl) (B6 (A8 Z Z) Z Z (B6 (A8 Z Z) Z Z (B6 (E8 Z (.pure _ _ _ _)) Z Z (B6 (F3 Z Z) Z Z (B6 (A8 Z Z) Z Z (D7 Z Z (fun c=>by rw[c];exact A8 Z Z) Z Z ?_))))));refine D7 Z Z (fun c=>by rw[c];exact A8 Z Z) Z Z ?_;refine D7 Z Z (fun c=>by rw[c];exact E8 Z (.pure _ _ _ _)) Z Z ?_;refine D7 Z Z (fun c=>by rw[c];exact F3 Z Z) Z Z ?_;refine B6 (B9 Z (fun h=>by first | rfl | (rw[h];rfl)) (fun h=>by first | rfl | (rw[h];rfl))) Z Z ?_;refine B6 (A8 Z Z) Z Z (D7 Z Z (fun c=>by rw[c];exact A8 Z Z) Z Z ?_);refine D7 Z Z (fun c=>by rw[c];exact A8 Z Z) Z Z ?_;refine D7 Z Z (fun c=>by have m:=c;(try simp at m);rw[c];exact B8 Z (.pure _ _ _ _) Z (by omega) (iI (by omega))) Z Z ?_;refine D7 Z Z (fun c=>by rw[c];exact C3 Z Z) Z Z ?_;refine D7 Z Z (fun c=>by rw[c];exact A8 Z Z) Z Z ?_;refine D7 Z Z (fun c=>by rw[c];exact A8 Z Z) Z Z ?_;refine D7 Z Z (fun c=>by have m:=c;(try simp at m);rw[c];exact B8 Z (.pure _ _ _ _) Z (by omega) (iI (by omega))) Z Z ?_;refine D7 Z Z (fun c=>by rw[c];exact C3 Z Z) Z Z ?_;refine D7 Z Z (fun c=>by rw[c];exact J4 Z Z) Z Z ?_;refine B6 (B9 Z (fun h=>by first | rfl | (rw[h];rfl)) (fun h=>by first | rfl | (rw[h];rfl))) Z Z ?_;refine T3 ?_;refine k1 ?_;refine B7 rfl (fun g=>?_) (fun g=>?_)
 ·simp only[and_pick]at g;obtain⟨⟨d,f⟩,j⟩:=A0 g;have d:k<a.length:=by omega
  have f:k<b.length:=by omega
  rw[pD a b k d f,A4 (by simpa[d,f] using j)]at i;refine k5 (k1 (k3 ?_));refine A7 (A6 (A8 Z Z) Z (A6 (D2 Z Z (by omega)) Z (A6 (A9 Z Z) Z (B0 ?_))));refine k4 (k1 ?_);exact⟨k+1,⟨by omega,by omega,by omega⟩,by omega,Sees.of ⟨B4 rfl,B4 rfl,B4 rfl,trivial⟩ trivial⟩
 ·simp only[and_pick]at g;have h:=A1 g;have o:Q6 (a.drop k) (b.drop k)=0:=by
   by_cases n:k<a.length/\k<b.length
   ·obtain⟨d,f⟩:=n;rw[pD a b k d f,A5];intro j;exact h ⟨⟨by omega,by omega⟩,by simpa[d,f] using j⟩
   ·exact EG a b k n
  rw[o]at i;refine k6 (k2 ?_);refine A7 (A6 (A8 Z Z) Z (A6 (A9 Z Z) Z (B0 ?_)));refine k1 (J0 ?_);exact C0 (H7 rfl rfl rfl) (by rw[i];rfl)
theorem qH(a b:List Int)(ha:a.length<=4096)(hb:b.length<=4096):FnOk Tryz.prog 245 [O5 a,O5 b] (fun rs=>rs=[ON (flat a b (fun _ _=>true))]):=by
 obtain⟨W,G⟩:∃W,W=b.length+1:=⟨_,rfl⟩
 have B:∀i:Nat,i<=a.length+1->0<=(i:Int)*(W:Int)/\(i:Int)*(W:Int)<=16789506:=by
  intro i U;have V:i*W<=4098*4097:=Nat.mul_le_mul (by omega) (by omega);have Y:((i*W:Nat):Int)=(i:Int)*W:=by push_cast;rfl
  omega
 have d:∀i:Nat,(i:Int)*(W:Int)=((i*W:Nat):Int):=fun i=>by push_cast;rfl
 have H:∀done,(flat a b done).length=(a.length+1)*W:=fun done=>by rw[lN,G]
 have E:∀i j,dist (a.drop i) (b.drop j)<=8192:=fun i j=>by
  have:=uA (a.drop i) (b.drop j);simp only[SH]at this;omega
 have af:∀i j:Nat,i<=a.length->j<=b.length->i*W+j<(a.length+1)*W:=fun i j U A=>by rw[G];exact (mM U A).1
 refine FnOk.intro Tryz.func245 (by decide) Z Z Z Z ?_;refine k2 ?_;refine A7 (A6 (A9 Z Z) Z (B0 ?_));refine k1 (k2 ?_);refine A7 (A6 (A8 Z Z) Z (A6 (E8 Z (.pure _ _ _ _)) Z (A6 (D2 Z Z (by omega)) Z (A6 (A9 Z Z) Z (B0 ?_)))));refine N7 ?_;refine Y4 [(0,E2 Int 1 G4 a),(1,E2 Int 1 G4 b),(5,C8 W)] [] (Sees.of ⟨⟨_,rfl,.same _⟩,⟨_,rfl,.same _⟩,⟨_,rfl,.eq (by rw[G];simp)⟩,trivial⟩ trivial) ?_;have aq:=B (a.length+1) (Nat.le_refl _);have S:((a.length:Int)+1)=((a.length+1:Nat):Int):=by omega
 refine k2 ?_;refine A7 (A6 (A8 Z Z) Z (A6 (E8 Z (.pure _ _ _ _)) Z (A6 (D2 Z Z (by omega)) Z (A6 (A8 Z Z) Z (A6 (bS Z Z (by (rw[S];omega))) Z ?_)))));refine D3 (gT 20 Int gA 0 Z Z (by (rw[S];omega)) (by (rw[S];omega)) (fun _=>by first | exact⟨⟨rfl,rfl⟩,trivial⟩ | exact⟨J2 _ _ _,trivial⟩ | exact⟨J2 _ _ _,⟨rfl,rfl⟩,J2 _ _ _,trivial⟩ | exact⟨⟨rfl,rfl⟩,⟨rfl,rfl⟩,trivial⟩) Z) Z ?_;refine A6 (A9 Z Z) Z (B0 ?_);refine N7 ?_;refine Y4 [(0,E2 Int 1 G4 a),(1,E2 Int 1 G4 b),(5,C8 W),(6,.s (.one (.mut 20)))] [(20,.arr Int 1 gA (flat a b (fun _ _=>false)))] ?_ ?_
 ·refine Sees.of ⟨⟨_,rfl,.same _⟩,⟨_,rfl,.same _⟩,⟨_,rfl,.same _⟩,⟨_,rfl,.same _⟩,trivial⟩ ⟨?_,trivial⟩;rw[<-EF,S,d,RI,G];rfl
 refine k2 (k2 ?_);refine A7 (A6 (A8 Z Z) Z (A6 (E8 Z (.pure _ _ _ _)) Z (A6 (A8 Z Z) Z (B0 ?_))));refine k1 (k3 ?_);refine E3 (X:=Nat) (fun j=>([(0,E2 Int 1 G4 a),(1,E2 Int 1 G4 b),(5,C8 W),(6,.s (.one (.mut 20))),(22,C8 b.length),(23,C8 j)],[(20,.arr Int 1 gA (flat a b (fun r q=>decide (r=a.length/\q<j))))])) (fun j=>j<=b.length) (fun j=>b.length-j) 0 (Nat.zero_le _) ?_ ?_
 ·rw[show flat a b (fun r q=>decide (r=a.length/\q<0))=flat a b (fun _ _=>false) from bG fun r q _ _=>.inl (by simp)];exact Sees.of ⟨B4 rfl,B4 rfl,B4 rfl,B4 rfl,B4 rfl,B4 rfl,trivial⟩ ⟨rfl,trivial⟩
 intro j A;dsimp only at A ⊢;refine k2 ?_;refine A7 (A6 (F3 Z Z) Z (B0 ?_));refine k1 (k2 ?_);refine B7 rfl (fun w=>?_) (fun w=>?_)
 ·have ap:j<b.length:=by have:=A0 w;omega
  have ar:=B a.length (by omega);have ao:=af a.length j (Nat.le_refl _) (by omega);have ab:=d a.length;have z:=H (fun r q=>decide (r=a.length/\q<j));have C:(flat a b (fun r q=>decide (r=a.length/\q<j))).set (((a.length:Int)*(W:Int)+(j:Int)).toNat) (IntKind.u16.wrap ((b.length:Int)-j))=flat a b (fun r q=>decide (r=a.length/\q<j+1)):=by
   rw[show ((a.length:Int)*(W:Int)+(j:Int)).toNat=a.length*(b.length+1)+j by rw[ab,G];omega,AO _ (by omega)];refine wX (Nat.le_refl _) (by omega) ?_ (by simp) (fun r q hr hq M=>?_)
   ·rw[RX (Nat.le_refl a.length),dist,SH];omega
   ·rw[decide_eq_decide];omega
  refine k5 (k1 (k2 (k3 (k2 ?_))));refine A7 (A6 (A8 Z Z) Z (A6 (A9 Z Z) Z (B0 ?_)));refine k1 ?_;refine A7 (A6 (A8 Z Z) Z (A6 (A8 Z Z) Z (A6 (E8 Z (.pure _ _ _ _)) Z (A6 (A8 Z Z) Z (A6 (bS Z Z (by omega)) Z (A6 (A8 Z Z) Z (A6 (D2 Z Z (by omega)) Z (A6 (A8 Z Z) Z (A6 (E8 Z (.pure _ _ _ _)) Z (A6 (A8 Z Z) Z (A6 (P2 Z Z (by omega)) Z (A6 (R2 Z) Z (A6 (J1 Z Z Z (by omega) (by (rw[z];omega))) Z ?_)))))))))))));refine F7 (N8 TySz.out Z Z (by (rw[z];omega)) Z Z) ?_;refine B0 ?_;refine k4 (k1 ?_);refine A7 (A6 (D2 Z Z (by omega)) Z (A6 (A8 Z Z) Z (B0 ?_)));refine k1 ?_;refine⟨j+1,by omega,by omega,?_⟩;rw[<-C];exact Sees.of ⟨B4 rfl,B4 rfl,B4 rfl,B4 rfl,B4 rfl,B4 rfl,trivial⟩ ⟨rfl,trivial⟩
 ·have ag:j=b.length:=by have:=A1 w;omega
  subst ag
  rw[show flat a b (fun r q=>decide (r=a.length/\q<b.length))=flat a b (fun r _=>decide (a.length<=r)) from bG fun r q hr hq=>by
   by_cases h:r=a.length/\q=b.length
   ·right;rw[h.1,h.2,RX (Nat.le_refl _),RX (Nat.le_refl _)];exact iK []
   ·left;rw[decide_eq_decide];omega]
  refine k6 (k2 (k2 ?_));refine A7 (A6 (A8 Z Z) Z (A6 (E8 Z (.pure _ _ _ _)) Z (A6 (P2 Z Z (by omega)) Z (A6 (A9 Z Z) Z (B0 ?_)))));refine k1 (k3 ?_);refine E3 (X:=Nat) (fun i=>([(0,E2 Int 1 G4 a),(1,E2 Int 1 G4 b),(5,C8 W),(6,.s (.one (.mut 20))),(8,C8 ((i:Int)-1))],[(20,.arr Int 1 gA (flat a b (fun r _=>decide (i<=r))))])) (fun i=>i<=a.length) (fun i=>i) a.length (Nat.le_refl _) (Sees.of ⟨B4 rfl,B4 rfl,B4 rfl,B4 rfl,B4 rfl,trivial⟩ ⟨rfl,trivial⟩) ?_;intro i U;dsimp only at U ⊢;refine k2 (k2 ?_);refine A7 (A6 (A8 Z Z) Z (A6 (r5 Z Z) Z (B0 ?_)));refine k1 ?_;refine B7 rfl (fun w=>?_) (fun w=>?_)
  ·obtain⟨i,rfl⟩:∃r,i=r+1:=⟨i-1,by have:=A0 w;omega⟩
   refine Y4 [(0,E2 Int 1 G4 a),(1,E2 Int 1 G4 b),(5,C8 W),(6,.s (.one (.mut 20))),(8,C8 i)] [(20,.arr Int 1 gA (flat a b (fun r _=>decide (i+1<=r))))] (Sees.of ⟨B4 rfl,B4 rfl,B4 rfl,B4 rfl,PJ Z (by first | (simp;done) | (simp;omega)),trivial⟩ ⟨rfl,trivial⟩) ?_;obtain⟨P,T⟩:∃P,P=i*W:=⟨_,rfl⟩
   obtain⟨N,hN⟩:∃N,N=(a.length+1)*W:=⟨_,rfl⟩
   have D:(i:Int)*(W:Int)=(P:Int):=by rw[T];exact d i
   have f:((i:Int)+1)*(W:Int)=(P:Int)+W:=by rw[Int.add_mul,Int.one_mul,D]
   have F:((i:Int)+2)*(W:Int)=(P:Int)+W+W:=by rw[Int.add_mul,D];omega
   have aj:P+W+W<=N:=by
    have V:(i+2)*W<=(a.length+1)*W:=RU _ (by omega);have Y:(i+2)*W=i*W+W+W:=by rw[SG];omega
    omega
   have ai:N<=16789506:=by have:=B (a.length+1) (Nat.le_refl _);have:=d (a.length+1);omega
   have z:∀done,(flat a b done).length=N:=fun done=>by rw[H,hN]
   refine k5 (k1 (k2 (k3 (k2 ?_))));refine F1 (by kernel_rfl) (by kernel_rfl) (B6 (A8 Z Z) Z Z (B6 (A8 Z Z) Z Z (B6 (A8 Z Z) Z Z (B6 (bS Z Z (by (rw[D];omega))) Z Z ?_))));refine B6 (A8 Z Z) Z Z (B6 (D2 Z Z (by omega)) Z Z (B6 (A8 Z Z) Z Z (B6 (bS Z Z (by (rw[f];omega))) Z Z ?_)));refine B6 (cP Z Z Z Z (by (first | (rw[D];omega) | (rw[D,f];omega) | (rw[f,z];omega))) (by (first | (rw[D];omega) | (rw[D,f];omega) | (rw[f,z];omega))) (by (first | (rw[D];omega) | (rw[D,f];omega) | (rw[f,z];omega)))) Z Z ?_;refine B6 (A8 Z Z) Z Z (B6 (A8 Z Z) Z Z (B6 (D2 Z Z (by omega)) Z Z (B6 (A8 Z Z) Z Z (B6 (bS Z Z (by (rw[f];omega))) Z Z ?_))));refine B6 (A8 Z Z) Z Z (B6 (D2 Z Z (by omega)) Z Z (B6 (A8 Z Z) Z Z (B6 (bS Z Z (by (rw[F];omega))) Z Z ?_)));refine B6 (cP Z Z Z Z (by (first | (rw[f];omega) | (rw[f,F];omega) | (rw[F,z];omega))) (by (first | (rw[f];omega) | (rw[f,F];omega) | (rw[F,z];omega))) (by (first | (rw[f];omega) | (rw[f,F];omega) | (rw[F,z];omega)))) Z Z ?_;refine B6 (A9 Z Z) Z Z (B6 (A9 Z Z) Z Z (T3 ?_));refine N7 ?_;have J:∀j,j<=b.length->(flat a b (fun r q=>decide (i+1<=r\/(r=i/\j<=q))))[P+j]?=some (dist (a.drop i) (b.drop j):Int):=fun j A=>by
    rw[T,G,pC (by omega) A,A4 (by simp)]
   have x:∀j j',j<=b.length->(flat a b (fun r q=>decide (i+1<=r\/(r=i/\j'<=q))))[P+W+j]?=some (dist (a.drop (i+1)) (b.drop j):Int):=fun j j' A=>by
    rw[show P+W+j=(i+1)*(b.length+1)+j by rw[T,G,SG];omega,pC (by omega) A,A4 (by simp)]
   refine Y4 [(0,E2 Int 1 G4 a),(1,E2 Int 1 G4 b),(5,C8 W),(6,.s (.one (.mut 20))),(8,C8 i),(9,.s (.one (.msl 20 1 P W))),(10,.s (.one (.msl 20 1 (P+W) W)))] [(20,.arr Int 1 gA (flat a b (fun r _=>decide (i+1<=r))))] ?_ ?_
   ·refine Sees.of ⟨⟨_,rfl,.same _⟩,⟨_,rfl,.same _⟩,⟨_,rfl,.same _⟩,⟨_,rfl,.same _⟩,⟨_,rfl,.same _⟩,⟨_,rfl,.eq ?_⟩,⟨_,rfl,.eq ?_⟩,trivial⟩ ⟨rfl,trivial⟩
    ·rw[D,f];congr 3<;>omega
    ·rw[f,F];congr 3<;>omega
   have I:∀(done c:Nat->Nat->Bool) (j:Nat) (v:Int),j<=b.length->v=(dist (a.drop i) (b.drop j):Int)->c i j=true->(∀r q,r<=a.length->q<=b.length->¬(r=i/\q=j)->c r q=done r q)->(flat a b done).set (P+j) v=flat a b c:=by
    intro done c j v A hv V Y;rw[T,G];exact wX (by omega) A hv V Y
   have ah:(flat a b (fun r _=>decide (i+1<=r))).set (P+((b.length:Nat):Int).toNat) (IntKind.u16.wrap ((a.length:Int)-i))=flat a b (fun r q=>decide (i+1<=r\/(r=i/\b.length<=q))):=by
    rw[RI,AO _ (by omega)];refine I _ _ _ _ (Nat.le_refl _) ?_ (by simp) (fun r q hr hq M=>?_)
    ·rw[RX (Nat.le_refl b.length),iK,SH];omega
    ·rw[decide_eq_decide];omega
   refine k2 ?_;refine A7 (A6 (A8 Z Z) Z (A6 (A8 Z Z) Z (A6 (E8 Z (.pure _ _ _ _)) Z (A6 (A8 Z Z) Z (A6 (E8 Z (.pure _ _ _ _)) Z (A6 (A8 Z Z) Z (A6 (P2 Z Z (by omega)) Z (A6 (R2 Z) Z (A6 (O9 Z Z (by omega) (by omega)) Z (F7 (N8 TySz.out Z Z (by (rw[z];omega)) Z Z) ?_))))))))));refine B0 ?_;rw[ah];refine k1 (k2 ?_);refine A7 (A6 (A8 Z Z) Z (A6 (E8 Z (.pure _ _ _ _)) Z (A6 (P2 Z Z (by omega)) Z (A6 (A9 Z Z) Z (B0 ?_)))));refine k1 (k3 ?_);refine E3 (X:=Nat) (fun j=>([(0,E2 Int 1 G4 a),(1,E2 Int 1 G4 b),(5,C8 W),(6,.s (.one (.mut 20))),(8,C8 i),(9,.s (.one (.msl 20 1 P W))),(10,.s (.one (.msl 20 1 (P+W) W))),(11,C8 ((j:Int)-1))],[(20,.arr Int 1 gA (flat a b (fun r q=>decide (i+1<=r\/(r=i/\j<=q)))))])) (fun j=>j<=b.length) (fun j=>j) b.length (Nat.le_refl _) (Sees.of ⟨B4 rfl,B4 rfl,B4 rfl,B4 rfl,B4 rfl,B4 rfl,B4 rfl,B4 rfl,trivial⟩ ⟨rfl,trivial⟩) ?_;intro j A;dsimp only at A ⊢;refine k2 (k2 ?_);refine A7 (A6 (A8 Z Z) Z (A6 (r5 Z Z) Z (B0 ?_)));refine k1 ?_;refine B7 rfl (fun w=>?_) (fun w=>?_)
   ·obtain⟨j,rfl⟩:∃r,j=r+1:=⟨j-1,by have:=A0 w;omega⟩
    have O:a[i]?=some a[i]:=by simp[show i<a.length by omega]
    have R:b[j]?=some b[j]:=by simp[show j<b.length by omega]
    have y:=DX a b i j (by omega) (by omega);have ak:=E i j;have al:=E (i+1) j;have am:=E i (j+1);have an:=E (i+1) (j+1);obtain⟨u,hu⟩:∃u,u=a[i]:=⟨_,rfl⟩
    obtain⟨v,hv⟩:∃v,v=b[j]:=⟨_,rfl⟩
    rw[<-hu]at O y;rw[<-hv]at R y;have C:(flat a b (fun r q=>decide (i+1<=r\/(r=i/\j+1<=q)))).set (P+j) (dist (a.drop i) (b.drop j):Int)=flat a b (fun r q=>decide (i+1<=r\/(r=i/\j<=q))):=I _ _ _ _ (by omega) rfl (by simp) (fun r q hr hq M=>by rw[decide_eq_decide];omega);refine Y4 [(0,E2 Int 1 G4 a),(1,E2 Int 1 G4 b),(5,C8 W),(6,.s (.one (.mut 20))),(8,C8 i),(9,.s (.one (.msl 20 1 P W))),(10,.s (.one (.msl 20 1 (P+W) W))),(11,C8 j)] [(20,.arr Int 1 gA (flat a b (fun r q=>decide (i+1<=r\/(r=i/\j+1<=q)))))] (Sees.of ⟨B4 rfl,B4 rfl,B4 rfl,B4 rfl,B4 rfl,B4 rfl,B4 rfl,PJ Z (by first | (simp;done) | (simp;omega)),trivial⟩ ⟨rfl,trivial⟩) ?_;refine FK ?_;refine N7 ?_;refine nE [(0,E2 Int 1 G4 a),(1,E2 Int 1 G4 b),(5,C8 W),(6,.s (.one (.mut 20))),(8,C8 i),(9,.s (.one (.msl 20 1 P W))),(10,.s (.one (.msl 20 1 (P+W) W))),(11,C8 j)] [(20,.arr Int 1 gA (flat a b (fun r q=>decide (i+1<=r\/(r=i/\j<=q)))))] ?_ ?_
    ·refine k3 (k2 ?_);refine F1 (by kernel_rfl) (by kernel_rfl) (B6 (A8 Z Z) Z Z (B6 (A8 Z Z) Z Z (B6 (B8 Z (.pure _ _ _ _) Z (by omega) O) Z Z (B6 (C3 Z Z) Z Z (B6 (A8 Z Z) Z Z (B6 (A8 Z Z) Z Z (B6 (B8 Z (.pure _ _ _ _) Z (by omega) R) Z Z (B6 (C3 Z Z) Z Z (B6 (J4 Z Z) Z Z (T3 ?_))))))))));refine k1 ?_;refine B7 rfl (fun w=>?_) (fun w=>?_)
     ·rw[A4 (A0 w)]at y;rw[y]at C;have hg:=x (j+1) (j+1) (by omega);have ae:(flat a b (fun r q=>decide (i+1<=r\/(r=i/\j+1<=q))))[P+W+((j:Int)+1).toNat]?=some (dist (a.drop (i+1)) (b.drop (j+1)):Int):=by rw[show ((j:Int)+1).toNat=j+1 by omega];exact hg
      skip;refine A7 (A6 (A8 Z Z) Z (A6 (A8 Z Z) Z (A6 (A8 Z Z) Z (A6 (A8 Z Z) Z (A6 (D2 Z Z (by omega)) Z (A6 (O9 Z Z (by omega) (by omega)) Z (A6 (S9 Z Z ae Z) Z (A6 (O9 Z Z (by omega) (by omega)) Z (F7 (N8 TySz.out Z Z (by (rw[z];omega)) Z Z) ?_)))))))));refine B0 ?_;refine k4 (k1 ?_);rw[show P+((j:Nat):Int).toNat=P+j by omega,C];exact Sees.of ⟨B4 rfl,B4 rfl,B4 rfl,B4 rfl,B4 rfl,B4 rfl,B4 rfl,B4 rfl,trivial⟩ ⟨rfl,trivial⟩
     ·rw[A5 (A1 w)]at y;have ac:=x j (j+1) (by omega);have ad:=J (j+1) (by omega);have K:(flat a b (fun r q=>decide (i+1<=r\/(r=i/\j+1<=q))))[P+W+((j:Nat):Int).toNat]?=some (dist (a.drop (i+1)) (b.drop j):Int):=by rw[RI];exact ac
      have L:(flat a b (fun r q=>decide (i+1<=r\/(r=i/\j+1<=q))))[P+((j:Int)+1).toNat]?=some (dist (a.drop i) (b.drop (j+1)):Int):=by rw[show ((j:Int)+1).toNat=j+1 by omega];exact ad
      have Q:IntKind.u16.wrap ((if (dist (a.drop i) (b.drop (j+1)):Int)<(dist (a.drop (i+1)) (b.drop j):Int) then (dist (a.drop i) (b.drop (j+1)):Int) else (dist (a.drop (i+1)) (b.drop j):Int))+1)=(dist (a.drop i) (b.drop j):Int):=by
       rw[AO _ (by split<;>omega),y];split<;>omega
      skip;refine F1 (by kernel_rfl) (by kernel_rfl) (B6 (A8 Z Z) Z Z (B6 (A8 Z Z) Z Z (B6 (A8 Z Z) Z Z (B6 (A8 Z Z) Z Z (B6 (O9 Z Z (by omega) (by omega)) Z Z (B6 (S9 Z Z K Z) Z Z (B6 (A8 Z Z) Z Z (B6 (A8 Z Z) Z Z (B6 (D2 Z Z (by omega)) Z Z (B6 (O9 Z Z (by omega) (by omega)) Z Z (B6 (S9 Z Z L Z) Z Z (B6 (BH Z Z) Z Z (B6 (gL Z Z) Z Z (B6 (O9 Z Z (by omega) (by omega)) Z Z (FP (N8 TySz.out Z Z (by (rw[z];omega)) Z Z) Z ?_)))))))))))))));refine T3 ?_;refine k4 (k1 ?_);rw[Q,show P+((j:Nat):Int).toNat=P+j by omega,C];exact Sees.of ⟨B4 rfl,B4 rfl,B4 rfl,B4 rfl,B4 rfl,B4 rfl,B4 rfl,B4 rfl,trivial⟩ ⟨rfl,trivial⟩
    ·skip;refine A7 (A6 (A8 Z Z) Z (A6 (P2 Z Z (by omega)) Z (A6 (A9 Z Z) Z (B0 ?_))));refine k1 ?_;exact⟨j,by omega,by omega,Sees.of ⟨B4 rfl,B4 rfl,B4 rfl,B4 rfl,B4 rfl,B4 rfl,B4 rfl,B4 rfl,trivial⟩ ⟨rfl,trivial⟩⟩
   ·obtain rfl:j=0:=by have:=A1 w;omega
    rw[show flat a b (fun r q=>decide (i+1<=r\/(r=i/\0<=q)))=flat a b (fun r _=>decide (i<=r)) from bG fun r q _ _=>.inl (by rw[decide_eq_decide];omega)];refine k6 (k7 (k7 (k8 Z (k4 (k1 ?_)))));refine A7 (A6 (A8 Z Z) Z (A6 (P2 Z Z (by omega)) Z (A6 (A9 Z Z) Z (B0 ?_))));refine k1 ?_;exact⟨i,by omega,by omega,Sees.of ⟨B4 rfl,B4 rfl,B4 rfl,B4 rfl,B4 rfl,trivial⟩ ⟨rfl,trivial⟩⟩
  ·obtain rfl:i=0:=by have:=A1 w;omega
   rw[show flat a b (fun r _=>decide (0<=r))=flat a b (fun _ _=>true) from bG fun r q _ _=>.inl (by simp)];refine I9 (Sees.freeze (k:=20) Z) ?_;refine k6 (k2 ?_);refine A7 (A6 (A8 Z Z) Z (A6 (A9 Z Z) Z (B0 ?_)));refine k1 (J0 ?_);exact C0 (H7 rfl rfl rfl) rfl
theorem LN{n:Int}(h:-9223372036854775808<=n/\n<=9223372036854775807):IntKind.i64.wrap n=n:=IntWalk.i64_in _ h
theorem BT{gf:Fr}{ob:Obs}(a b:List Int)(i j:Nat)(ha:a.length<=4096)(hb:b.length<=4096)(m:i<=a.length)(q:j<=b.length)(y:C2 ob 8=some (.box [.p (.list Int 1 gA (flat a b (fun _ _=>true)))]))(w:C2 ob 3=some (.box [.p (.list Int 1 G4 b)])) :
  AL.Met Tryz.prog 246 [.one (.p (.v (.int .i64 i))),.one (.p (.v (.int .i64 j))),.one (.ref 8 0),.one (.ref 3 0)] gf ob [] (fun C ob'=>C=[.one (.p (.v (.int .i64 (dist (a.drop i) (b.drop j):Int))))]/\ob'=ob):=by
 have k:=pC (a:=a) (b:=b) (done:=fun _ _=>true) m q;rw[A4 rfl]at k;have B:=(mM (a:=a) (b:=b) m q).1;have D:=lN a b (fun _ _=>true);have c:(i:Int)*((b.length:Int)+1)=((i*(b.length+1):Nat):Int):=by push_cast;rfl
 have z:i*(b.length+1)<=4096*4097:=Nat.mul_le_mul (by omega) (by omega);have g:(a.length+1)*(b.length+1)<=4097*4097:=Nat.mul_le_mul (by omega) (by omega);have d:(flat a b (fun _ _=>true))[((i:Int)*((b.length:Int)+1)+j).toNat]?=some (dist (a.drop i) (b.drop j):Int):=by
  rw[c,show (((i*(b.length+1):Nat):Int)+j).toNat=i*(b.length+1)+j by omega];exact k
 have A:=uA (a.drop i) (b.drop j);simp only[SH]at A;refine AL.Met.intro Tryz.func246 (by decide) Z Z Z ?_;refine k2 ?_;refine A7 (A6 (A9 Z Z) Z (B0 ?_));refine k1 (k2 ?_);refine A7 (A6 (B2 Z y Z) Z (A6 (A8 Z Z) Z (A6 (B2 Z w Z) Z (A6 (E8 Z (.pure _ _ _ _)) Z (A6 (D2 Z Z (by omega)) Z (A6 (bS Z Z (by (rw[c];omega))) Z ?_))))));refine A6 (A8 Z Z) Z (A6 (D2 Z Z (by (rw[c];omega))) Z ?_);refine A6 (B8 Z (.pure _ _ _ _) Z (by omega) d) Z (A6 (C3 Z Z) Z (A6 (R2 Z) Z (A6 (A9 Z Z) Z (B0 ?_))));rw[LN (by omega)];refine k1 (J0 ?_);exact M6 (u5 rfl rfl) (by repeat (first | exact E0 | refine E1 rfl ?_ | refine H4 _ ?_)) (fun _ _ h=>h) ⟨rfl,rfl⟩
theorem HG(a b:List Int)(ha:a.length<=4096)(hb:b.length<=4096):FnOk Tryz.prog 181 [O5 a,O5 b] (fun rs=>rs=[pSpans (I3 0 0 a b)]):=by
 obtain⟨n,R⟩:∃n,n=Q6 a b:=⟨_,rfl⟩
 have S:=wY a b;rw[<-R]at S;have C:=pE a b 0 0;rw[<-R]at C;refine FnOk.intro Tryz.func181 (by decide) Z Z Z Z ?_;refine k2 ?_;refine A7 (D3 (bU 3 Z Z Z) Z (A6 (A9 Z Z) Z (B0 ?_)));refine k1 (k2 ?_);refine A7 (D3 (u0 5 _ spanC Z) Z (B0 ?_));refine k1 (k2 ?_);refine A7 (A6 (A8 Z Z) Z (A6 (B2 Z Z Z) Z (C7 (qG a b (by omega)) Z Z Z ?_)));rintro _ rfl;refine A6 (A9 Z Z) Z (B0 ?_);rw[<-R];refine k1 (k2 (k2 ?_));refine A7 (A6 (A8 Z Z) Z (A6 (A8 Z Z) Z (B0 ?_)));refine k1 (k3 ?_);refine E3 (X:=Nat) (fun k=>([(0,E2 Int 1 G4 a),(3,.s (.one (.ref 3 0))),(5,.s (.one (.buf 5 Span 2 spanC (K5 0 0 k)))),(6,C8 n),(15,C8 n),(16,C8 k)],[(3,.box [.p (.list Int 1 G4 b)]),(5,.spare (K5 0 0 k).length 2 46)])) (fun k=>k<=n) (fun k=>n-k) 0 (Nat.zero_le _) (Sees.of ⟨B4 rfl,B4 rfl,B4 rfl,B4 rfl,B4 rfl,B4 rfl,trivial⟩ ⟨rfl,rfl,trivial⟩) ?_;intro k hk;dsimp only at hk ⊢;have W:=T7 0 0 k;refine k2 ?_;refine A7 (A6 (F3 Z Z) Z (B0 ?_));refine k1 (k2 ?_);refine B7 rfl (fun y=>?_) (fun y=>?_)
 ·have ac:k<n:=by have:=A0 y;omega
  have Y:=iL 0 0 k;refine k5 (k1 (k2 (k3 (k2 ?_))));refine A7 (A6 (A8 Z Z) Z (A6 (A9 Z Z) Z (B0 ?_)));refine k1 ?_;refine A7 (A6 (A8 Z Z) Z (A6 (A8 Z Z) Z (A6 (A8 Z Z) Z (A6 (H0 Z) Z (A6 (D9 (c:=spanC) (ys:=[⟨(k:Int),(k:Int)⟩]) (D4 Z Z Z Z H3) Z Z Z) Z (D3 (K8 Z Z Z (.pure _ _ _ _) (by (simp only[RJ,RP];omega)) Z) Z (A6 (A9 Z Z) Z (B0 ?_))))))));refine k4 (k1 ?_);refine A7 (A6 (D2 Z Z (by omega)) Z (A6 (A8 Z Z) Z (B0 ?_)));refine k1 ?_;refine⟨k+1,by omega,by omega,?_⟩;rw[Y,show (0:Int)+(k:Int)=k by omega];exact Sees.of ⟨B4 rfl,B4 rfl,B4 rfl,B4 rfl,B4 rfl,B4 rfl,trivial⟩ ⟨rfl,rfl,trivial⟩
 have Q:k=n:=by have:=A1 y;omega
 subst Q;obtain⟨m,G⟩:∃m,m=a.drop k:=⟨_,rfl⟩
 obtain⟨d,I⟩:∃d,d=b.drop k:=⟨_,rfl⟩
 have H:m.length<=4096:=by rw[G,SH];omega
 have J:d.length<=4096:=by rw[I,SH];omega
 rw[Int.zero_add,<-G,<-I]at C;refine k6 (k2 ?_);refine F1 (by kernel_rfl) (by kernel_rfl) (B6 (A8 Z Z) Z Z (B6 (A8 Z Z) Z Z (B6 (o9 Z (.pure _ _ _ _) Z (by omega) (by omega)) Z Z (B6 (B2 Z Z Z) Z Z (B6 (A8 Z Z) Z Z (B6 (o9 Z (.pure _ _ _ _) Z (by omega) (by omega)) Z Z (B6 (A9 Z Z) Z Z (FP (C4 TySz.out Z Z Z Z Z Z) Z (T3 ?_)))))))));rw[RI,<-G,<-I];refine k1 (k2 ?_);refine A7 (A6 (A8 Z Z) Z (A6 (B2 Z Z Z) Z (C7 (qH m d H J) Z Z Z ?_)));rintro _ rfl;refine D3 (I5 8 Z) Z (F7 (C4 TySz.out Z Z Z Z Z Z) (B0 ?_));refine k1 (k2 ?_);refine A7 (A6 (fO Z Z) Z (A6 (A9 Z Z) Z (B0 ?_)));refine k1 (k2 (k2 ?_));refine A7 (A6 (A9 Z Z) Z (A6 (A9 Z Z) Z (B0 ?_)));refine k1 (k3 ?_);refine E3 (X:=Nat×Nat×List Span) (fun x=>([(0,E2 Int 1 G4 m),(3,.s (.one (.ref 3 0))),(5,.s (.one (.buf 5 Span 2 spanC x.2.2))),(6,C8 k),(8,.s (.one (.ref 8 0))),(9,.s (.one (.clo 246 [] [(8,0),(3,0)]))),(10,C8 x.1),(11,C8 x.2.1)],[(3,.box [.p (.list Int 1 G4 d)]),(5,.spare x.2.2.length 2 46),(8,.box [.p (.list Int 1 gA (flat m d (fun _ _=>true)))])])) (fun x=>x.1<=m.length/\x.2.1<=d.length/\x.2.2.length<=k+x.1/\I3 0 0 a b=x.2.2++I3 (k+x.1) (k+x.2.1) (m.drop x.1) (d.drop x.2.1)) (fun x=>(m.length-x.1)+(d.length-x.2.1)) (0,0,K5 0 0 k) ⟨Nat.zero_le _,Nat.zero_le _,by rw[W];exact Nat.le_refl _,by simpa using C⟩ (Sees.of ⟨B4 rfl,B4 rfl,B4 rfl,B4 rfl,B4 rfl,B4 rfl,B4 rfl,B4 rfl,trivial⟩ ⟨rfl,rfl,rfl,trivial⟩) ?_;rintro⟨i,j,z⟩ ⟨hi,P,U,F⟩;dsimp only at hi P U F ⊢;refine k2 (k2 ?_);refine A7 (A6 (A8 Z Z) Z (A6 (A8 Z Z) Z (A6 (E8 Z (.pure _ _ _ _)) Z (A6 (F3 Z Z) Z (A6 (A8 Z Z) Z (B3 Z Z Z Z (fun v=>by rw[v];exact A8 Z Z) ?_))))));refine B3 Z Z Z Z (fun v=>by rw[v];exact B2 Z Z Z) ?_;refine B3 Z Z Z Z (fun v=>by rw[v];exact E8 Z (.pure _ _ _ _)) ?_;refine B3 Z Z Z Z (fun v=>by rw[v];exact F3 Z Z) ?_;refine A6 (B9 Z (fun h=>by first | rfl | (rw[h];rfl)) (fun h=>by first | rfl | (rw[h];rfl))) Z ?_;refine B0 ?_;refine k1 ?_;refine B7 rfl (fun y=>?_) (fun y=>?_)
 ·simp only[or_pick]at y;have K:=A0 y;refine Y4 [(0,E2 Int 1 G4 m),(3,.s (.one (.ref 3 0))),(5,.s (.one (.buf 5 Span 2 spanC z))),(6,C8 k),(8,.s (.one (.ref 8 0))),(9,.s (.one (.clo 246 [] [(8,0),(3,0)]))),(10,C8 i),(11,C8 j)] [(3,.box [.p (.list Int 1 G4 d)]),(5,.spare z.length 2 46),(8,.box [.p (.list Int 1 gA (flat m d (fun _ _=>true)))])] (Sees.of ⟨B4 rfl,B4 rfl,B4 rfl,B4 rfl,B4 rfl,B4 rfl,B4 rfl,B4 rfl,trivial⟩ ⟨rfl,rfl,rfl,trivial⟩) ?_;refine k5 (k1 (k3 (k3 (k2 ?_))));refine F1 (by kernel_rfl) (by kernel_rfl) (B6 (A8 Z Z) Z Z (B6 (A8 Z Z) Z Z (B6 (E8 Z (.pure _ _ _ _)) Z Z (B6 (F3 Z Z) Z Z (B6 (A8 Z Z) Z Z (D7 Z Z (fun v=>by rw[v];exact A8 Z Z) Z Z ?_))))));refine D7 Z Z (fun v=>by rw[v];exact B2 Z Z Z) Z Z ?_;refine D7 Z Z (fun v=>by rw[v];exact E8 Z (.pure _ _ _ _)) Z Z ?_;refine D7 Z Z (fun v=>by rw[v];exact F3 Z Z) Z Z ?_;refine B6 (B9 Z (fun h=>by first | rfl | (rw[h];rfl)) (fun h=>by first | rfl | (rw[h];rfl))) Z Z ?_;refine B6 (A8 Z Z) Z Z (D7 Z Z (fun v=>by rw[v];exact A8 Z Z) Z Z ?_);refine D7 Z Z (fun v=>by rw[v];exact A8 Z Z) Z Z ?_;refine D7 Z Z (fun v=>by have V:=v;(try simp at V);rw[v];exact B8 Z (.pure _ _ _ _) Z (by omega) (iI (by omega))) Z Z ?_;refine D7 Z Z (fun v=>by rw[v];exact C3 Z Z) Z Z ?_;refine D7 Z Z (fun v=>by rw[v];exact B2 Z Z Z) Z Z ?_;refine D7 Z Z (fun v=>by rw[v];exact A8 Z Z) Z Z ?_;refine D7 Z Z (fun v=>by have V:=v;(try simp at V);rw[v];exact B8 Z (.pure _ _ _ _) Z (by omega) (iI (by omega))) Z Z ?_;refine D7 Z Z (fun v=>by rw[v];exact C3 Z Z) Z Z ?_;refine D7 Z Z (fun v=>by rw[v];exact J4 Z Z) Z Z ?_;refine B6 (B9 Z (fun h=>by first | rfl | (rw[h];rfl)) (fun h=>by first | rfl | (rw[h];rfl))) Z Z ?_;refine B6 (A9 Z Z) Z Z (T3 ?_);refine k1 ?_;refine B7 rfl (fun y=>?_) (fun y=>?_)
  ·simp only[and_pick]at y;obtain⟨⟨M,A⟩,B⟩:=A0 y;have M:i<m.length:=by omega
   have A:j<d.length:=by omega
   rw[lG m d i j M A,A4 (by simpa[M,A] using B)]at F;refine Y4 [(0,E2 Int 1 G4 m),(3,.s (.one (.ref 3 0))),(5,.s (.one (.buf 5 Span 2 spanC z))),(6,C8 k),(8,.s (.one (.ref 8 0))),(9,.s (.one (.clo 246 [] [(8,0),(3,0)]))),(10,C8 i),(11,C8 j)] [(3,.box [.p (.list Int 1 G4 d)]),(5,.spare z.length 2 46),(8,.box [.p (.list Int 1 gA (flat m d (fun _ _=>true)))])] (Sees.of ⟨B4 rfl,B4 rfl,B4 rfl,B4 rfl,B4 rfl,B4 rfl,B4 rfl,B4 rfl,trivial⟩ ⟨rfl,rfl,rfl,trivial⟩) ?_;refine k2 ?_;refine A7 (A6 (A8 Z Z) Z (A6 (A8 Z Z) Z (A6 (A8 Z Z) Z (A6 (D2 Z Z (by omega)) Z (A6 (A8 Z Z) Z (A6 (A8 Z Z) Z (A6 (D2 Z Z (by omega)) Z (A6 (H0 Z) Z (A6 (D9 (c:=spanC) (ys:=[⟨(k:Int)+i,(k:Int)+j⟩]) (D4 Z Z Z Z H3) Z Z Z) Z (D3 (K8 Z Z Z (.pure _ _ _ _) (by (simp only[RJ,RP];omega)) Z) Z (A6 (A9 Z Z) Z (B0 ?_))))))))))));refine k1 ?_;refine A7 (A6 (A8 Z Z) Z (A6 (D2 Z Z (by omega)) Z (A6 (A8 Z Z) Z (A6 (D2 Z Z (by omega)) Z (A6 (A9 Z Z) Z (A6 (A9 Z Z) Z (B0 ?_)))))));refine k4 (k4 (k1 ?_));refine⟨(i+1,j+1,z++[⟨(k:Int)+i,(k:Int)+j⟩]),⟨by dsimp only;omega,by dsimp only;omega,by simp;omega,?_⟩,by dsimp only;omega,Sees.of ⟨B4 rfl,B4 rfl,B4 rfl,B4 rfl,B4 rfl,B4 rfl,B4 rfl,B4 rfl,trivial⟩ ⟨rfl,rfl,rfl,trivial⟩⟩;dsimp only;rw[F,RT]
   congr 2
  ·simp only[and_pick]at y;have T:=A1 y;refine Y4 [(0,E2 Int 1 G4 m),(3,.s (.one (.ref 3 0))),(5,.s (.one (.buf 5 Span 2 spanC z))),(6,C8 k),(8,.s (.one (.ref 8 0))),(9,.s (.one (.clo 246 [] [(8,0),(3,0)]))),(10,C8 i),(11,C8 j)] [(3,.box [.p (.list Int 1 G4 d)]),(5,.spare z.length 2 46),(8,.box [.p (.list Int 1 gA (flat m d (fun _ _=>true)))])] (Sees.of ⟨B4 rfl,B4 rfl,B4 rfl,B4 rfl,B4 rfl,B4 rfl,B4 rfl,B4 rfl,trivial⟩ ⟨rfl,rfl,rfl,trivial⟩) ?_;by_cases M:i<m.length
   ·have D:decide ((i:Int)<(m.length:Int))=true:=A2 (by omega);have O:=uA (m.drop (i+1)) (d.drop j);simp only[SH]at O;have E:¬j<d.length->dist (m.drop (i+1)) (d.drop j)+1=dist (m.drop i) (d.drop j)/\I3 (k+i) (k+j) (m.drop i) (d.drop j)=I3 (k+i+1) (k+j) (m.drop (i+1)) (d.drop j):=by
     intro ab;rw[show d.drop j=[] from RX (by omega),iK,iK,SH,SH,c6,c6];exact⟨by omega,rfl⟩
    have N:j<d.length->I3 (k+i) (k+j) (m.drop i) (d.drop j)=if dist (m.drop (i+1)) (d.drop j)+1=dist (m.drop i) (d.drop j) then I3 (k+i+1) (k+j) (m.drop (i+1)) (d.drop j) else I3 (k+i) (k+j+1) (m.drop i) (d.drop (j+1)):=by
     intro A;rw[lG m d i j M A,A5];intro B;exact T ⟨⟨by omega,by omega⟩,by simpa[M,A] using B⟩
    refine k2 ?_;refine A7 (A6 (A8 Z Z) Z (A6 (A8 Z Z) Z (A6 (E8 Z (.pure _ _ _ _)) Z (A6 (F3 Z Z) Z (A6 (A8 Z Z) Z (U7 Z Z Z D (A6 (A8 Z Z) Z (U7 Z Z Z D (A6 (A8 Z Z) Z (U7 Z Z Z D (A6 (D2 Z Z (by omega)) Z (U7 Z Z Z D (A6 (A8 Z Z) Z (U7 Z Z Z D (nO (BT m d (i+1) j H J (by omega) P Z Z) Z Z Z Z ?_)))))))))))))));rintro _ _ ⟨rfl,rfl⟩;refine U7 Z Z Z D (A6 (D2 Z Z (by omega)) Z (U7 Z Z Z D (A6 (A8 Z Z) Z (U7 Z Z Z D (A6 (A8 Z Z) Z (U7 Z Z Z D (A6 (A8 Z Z) Z (U7 Z Z Z D (nO (BT m d i j H J hi P Z Z) Z Z Z Z ?_)))))))));rintro _ _ ⟨rfl,rfl⟩;refine U7 Z Z Z D (A6 (J4 Z Z) Z (A6 (B9 Z (fun h=>by first | rfl | (rw[h];rfl)) (fun h=>by first | rfl | (rw[h];rfl))) Z ?_));refine A6 (A9 Z Z) Z (B0 ?_);refine k1 ?_;refine B7 rfl (fun y=>?_) (fun y=>?_)
    ·simp only[and_pick]at y;obtain⟨_,B⟩:=A0 y;have B:dist (m.drop (i+1)) (d.drop j)+1=dist (m.drop i) (d.drop j):=by omega
     have L:I3 (k+i) (k+j) (m.drop i) (d.drop j)=I3 (k+i+1) (k+j) (m.drop (i+1)) (d.drop j):=by
      by_cases A:j<d.length
      ·rw[N A,A4 B]
      ·exact (E A).2
     rw[L]at F;skip;refine A7 (A6 (A8 Z Z) Z (A6 (D2 Z Z (by omega)) Z (A6 (A9 Z Z) Z (B0 ?_))));refine k4 (k4 (k1 ?_));refine⟨(i+1,j,z),⟨by dsimp only;omega,by dsimp only;omega,by dsimp only;omega,?_⟩,by dsimp only;omega,Sees.of ⟨B4 rfl,B4 rfl,B4 rfl,B4 rfl,B4 rfl,B4 rfl,B4 rfl,B4 rfl,trivial⟩ ⟨rfl,rfl,rfl,trivial⟩⟩;dsimp only;rw[F,show (k:Int)+(i:Int)+1=(k:Int)+((i+1:Nat):Int) by omega]
    ·simp only[and_pick]at y;have B:=A1 y;have B:¬dist (m.drop (i+1)) (d.drop j)+1=dist (m.drop i) (d.drop j):=fun q=>B ⟨by omega,by omega⟩;have A:j<d.length:=by
      by_cases A:j<d.length
      ·exact A
      ·exact absurd (E A).1 B
     rw[N A,A5 B]at F;skip;refine A7 (A6 (A8 Z Z) Z (A6 (D2 Z Z (by omega)) Z (A6 (A9 Z Z) Z (B0 ?_))));refine k4 (k4 (k1 ?_));refine⟨(i,j+1,z),⟨by dsimp only;omega,by dsimp only;omega,by dsimp only;omega,?_⟩,by dsimp only;omega,Sees.of ⟨B4 rfl,B4 rfl,B4 rfl,B4 rfl,B4 rfl,B4 rfl,B4 rfl,B4 rfl,trivial⟩ ⟨rfl,rfl,rfl,trivial⟩⟩;dsimp only;rw[F,show (k:Int)+(j:Int)+1=(k:Int)+((j+1:Nat):Int) by omega]
   ·have w:decide ((i:Int)<(m.length:Int))=false:=A3 (by omega);have A:j<d.length:=by omega
    refine k2 ?_;refine A7 (A6 (A8 Z Z) Z (A6 (A8 Z Z) Z (A6 (E8 Z (.pure _ _ _ _)) Z (A6 (F3 Z Z) Z (A6 (A8 Z Z) Z (l4 Z Z Z (by rw[w];decide) Z ?_))))));refine l4 Z Z Z (by rw[w];decide) Z ?_;refine l4 Z Z Z (by rw[w];decide) Z ?_;refine l4 Z Z Z (by rw[w];decide) Z ?_;refine l4 Z Z Z (by rw[w];decide) Z ?_;refine l4 Z Z Z (by rw[w];decide) Z ?_;refine l4 Z Z Z (by rw[w];decide) Z ?_;refine l4 Z Z Z (by rw[w];decide) Z ?_;refine l4 Z Z Z (by rw[w];decide) Z ?_;refine l4 Z Z Z (by rw[w];decide) Z ?_;refine l4 Z Z Z (by rw[w];decide) Z ?_;refine A6 (nJ Z (w) Z) Z (A6 (A9 Z Z) Z (B0 ?_));refine k1 ?_;refine B7 rfl (fun y=>?_) (fun y=>?_)
    ·cases y
    ·skip;refine A7 (A6 (A8 Z Z) Z (A6 (D2 Z Z (by omega)) Z (A6 (A9 Z Z) Z (B0 ?_))));refine k4 (k4 (k1 ?_));refine⟨(i,j+1,z),⟨by dsimp only;omega,by dsimp only;omega,by dsimp only;omega,?_⟩,by dsimp only;omega,Sees.of ⟨B4 rfl,B4 rfl,B4 rfl,B4 rfl,B4 rfl,B4 rfl,B4 rfl,B4 rfl,trivial⟩ ⟨rfl,rfl,rfl,trivial⟩⟩;dsimp only;rw[F,show m.drop i=[] from RX (by omega),V9,V9]
 ·simp only[or_pick]at y;have K:=A1 y;rw[show m.drop i=[] from RX (by omega),V9,SJ]at F;refine k6 (k2 ?_);refine A7 (A6 (A8 Z Z) Z (A6 (A9 Z Z) Z (B0 ?_)));refine k1 (J0 ?_);exact C0 (H7 rfl rfl rfl) (by rw[F])
theorem zM(a b:List Int)(ha:a.length<=4096)(hb:b.length<=4096):FnOk Tryz.prog 130 [O5 a,O5 b] (fun rs=>rs=[pChanges (kC a b),E7 0]):=by
 have d:=oO a b 0 0;rw[Int.zero_add,Int.zero_add]at d;have f:=eY 0 0 a b;refine FnOk.intro Tryz.func130 (by decide) Z Z Z Z ?_;refine k2 ?_;refine A7 (A6 (A9 Z Z) Z (A6 (A9 Z Z) Z (B0 ?_)));refine k1 (k2 (k2 ?_));refine A7 (A6 (A8 Z Z) Z (A6 (A8 Z Z) Z (C7 (wM a b) Z Z Z ?_)));rintro _ rfl;refine A6 (M8 Z) Z (B0 ?_);refine k1 ?_;refine B7 rfl (fun c=>?_) (fun c=>?_)
 ·exfalso;have h:decide ((a.length:Int)<=4096/\(b.length:Int)<=4096)=true:=A2 ⟨by omega,by omega⟩;rw[h]at c;cases c
 refine k5 (k1 (k2 ?_));refine A7 (A6 (A8 Z Z) Z (A6 (A8 Z Z) Z (C7 (HG a b ha hb) Z Z Z ?_)));rintro _ rfl;refine A6 (A8 Z Z) Z (A6 (E8 Z (.pure _ _ _ _)) Z (A6 (A8 Z Z) Z (A6 (E8 Z (.pure _ _ _ _)) Z (C7 (qF (I3 0 0 a b) a.length b.length ⟨by omega,by omega⟩ ⟨by omega,by omega⟩ d (by omega)) Z Z Z ?_))));rintro _ rfl;refine A6 (B5 Z Z) Z (A6 (B5 Z Z) Z (A6 (A9 Z Z) Z (A6 (A9 Z Z) Z (B0 ?_))));refine k1 (J0 ?_);exact C0 (Z7 rfl rfl rfl rfl rfl) rfl
end Go.Proofs.YtbflhoahmmfkmaaGreatDoor
