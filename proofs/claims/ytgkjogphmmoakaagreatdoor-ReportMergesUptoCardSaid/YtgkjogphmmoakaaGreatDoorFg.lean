
/- Walks of the program's functions. -/
import Derived.Test.YtgkjogphmmoakaaGreatDoorFf
set_option linter.all false
namespace Go.Proofs.YtgkjogphmmoakaaGreatDoor
open Go Go.AL
set_option maxRecDepth 100000
set_option maxHeartbeats 4000000
def gW:CHunk->Nat->Cell
 | h,0=>.list Int 1 E3 h.At
 | h,_=>match h.Rows with
  | []=>.v (.slice none 0 0)
  | _::_=>.list Row 3 rowC h.Rows
abbrev HX(w:Str)(d:Bool)(n:Int):Ob:=.box [.p (.v (.string ⟨w.toArray⟩)),.p (.v (.bool d)),.p (.v (.int .i64 n)),.mut 731]
abbrev d7(w:Str)(d:Bool)(n:Int)(hs:List CHunk):Obs:=[(730,HX w d n),(731,.grow 42 CHunk 2 gW hs),(2,X3)]
abbrev d9(w:Str)(d:Bool)(n:Int)(hs:List CHunk)(a:List Int)(rs:List Row):Obs :=
 [(730,HX w d n),(731,.growA 42 CHunk 2 gW hs (hs.length-1) [.p (.list Int 1 E3 a),.mut 732]),(732,.grow 89 Row 3 rowC rs),(2,X3)]
abbrev gfL(x:Str)(R:List Str)(k:Nat):Fr:=[(1000032,H6 x),(1000031,.s (.one (.ref 730 0))),(1000004,.s (.one (.ref 730 0))),(1000002,.s (.one (.ref 2 0))),(1000025,C0 Str 1 L2 R),(1000026,B2 R.length),(1000027,B2 k),(1000006,H6 x)]
abbrev gfH(x:Str)(R:List Str)(k:Nat):Fr:=[(1000012,H6 x),(1000011,.s (.one (.ref 730 0))),(1000000,.s (.one (.ref 730 0))),(1000001,H6 x),(2000032,H6 x),(2000031,.s (.one (.ref 730 0))),(2000004,.s (.one (.ref 730 0))),(2000002,.s (.one (.ref 2 0))),(2000025,C0 Str 1 L2 R),(2000026,B2 R.length),(2000027,B2 k),(2000006,H6 x)]
theorem VP{n k:Nat}{w:Str}{r:List Str}{a c:Int}{e:Nat}(b:w.take 1=[eK n k])(d:bO (w.drop 1)=some (a,c,e))(f:e=(w.drop 1).length):S5 n k (w::r)=(S5 n (k+1) r).map (a::·):=by
 rw[S5,A5 b,d];dsimp only;rw[A5 f]
theorem A39{n k:Nat}{w:Str}{r:List Str}(a:w.take 1≠[eK n k]):S5 n k (w::r)=none:=by rw[S5,A6 a]
theorem A40{n k:Nat}{w:Str}{r:List Str}(a:bO (w.drop 1)=none):S5 n k (w::r)=none:=by
 rw[S5,a];split<;>rfl
theorem A41{n k:Nat}{w:Str}{r:List Str}{a c:Int}{e:Nat}(b:bO (w.drop 1)=some (a,c,e))(d:e≠(w.drop 1).length):S5 n k (w::r)=none:=by
 rw[S5,b];dsimp only;rw[A6 d];split<;>rfl
theorem HY{n:Nat}{l:Str}(h:¬(l.take (n+2)=uE n/\U9 (l.drop (n+2)) (rN n)=true)):fJ n l=none:=by unfold fJ;rw[A6 h]
theorem B36{n:Nat}{l:Str}(h:l.take (n+2)=uE n/\U9 (l.drop (n+2)) (rN n)=true):fJ n l=match S5 n 0 (O7 32 ((l.drop (n+2)).take ((l.drop (n+2)).length-(n+2)))) with
   | some a=>if a.length=n+1 then some a else none
   | none=>none:=by unfold fJ;rw[A5 h];rfl
theorem QA(x:Str)(R:List Str)(k:Nat)(w:Str)(d:Bool)(N:Nat)(hs:List CHunk)(hN:1<=N/\N<=32)(hl:hs.length<=16777216)(hx:x.length<=4194304) :
  AL.Met Tryz.prog 159 [.one (.ref 730 0),.one (.p (.v (.string ⟨x.toArray⟩)))] (gfH x R k) (d7 w d N hs) [731]
   (fun Q ob'=>match fJ N x with
    | none=>Q=[UU false]/\ob'=[(2,X3)]
    | some a=>Q=[UU true]/\ob'=d7 w d N (hs++[⟨a,[]⟩])):=by
 have L:FnOk Tryz.prog 93 [E5 [64],D2 ((N:Int)+1)] (fun Q=>Q=[E5 (atS (N+1))]):=by
  have:=HQ 64 (N+1) B1
  rwa[show ((N+1:Nat):Int)=(N:Int)+1 by omega]at this
 have al:=cT (N+1);have ag:(uE N).length=N+2:=by simp[uE,cT]
 have ah:(rN N).length=N+2:=by simp[rN,cT]
 have F:=aU x (uE N);unfold FL at F;rw[ag]at F;obtain⟨H,O⟩:∃H,H=fJ N x:=⟨_,rfl⟩
 rw[<-O];by_cases h1:x.take (N+2)=uE N;rotate_left
 ·rw[A6 h1]at F;have E:H=none:=by rw[O];exact HY (fun h=>h1 h.1)
  rw[E];refine AL.Met.intro Tryz.func159 G6 Z Z Z (k2 (B7 (A7 (C1 Z Z) Z (E4 ?_))));refine k1 (k2 (B7 (A7 (B3 Z Z) Z (A7 (E8 Z) Z (A7 (B5 Z) Z (A7 (B5 Z) Z (A7 (C2 Z Z Z) Z (A7 (y8 Z Z B1) Z (D3 (L) (A7 (C1 Z Z) Z (E4 ?_)))))))))));refine k1 (k2 (B7 (A7 (B3 Z Z) Z (A7 (B3 Z Z) Z (A7 (V1 Z Z TQ) Z (D3 (F) (A7 (B3 Z Z) Z (A7 (C9 Z Z) Z (A7 (C9 Z Z) Z (A7 (C1 Z Z) Z (A7 (C1 Z Z) Z (E4 ?_))))))))))));refine k1 (k2 (k2 (B7 (A7 (B3 Z Z) Z (A7 (S7 Z) Z (E4 ?_))))));refine k1 ?_;refine zc 0 (fun B=>?_) fun B=>?_
  ·refine k2 (E2 (Sees.forget 731) (B7 (A7 (C1 Z Z) Z (E4 ?_))));refine k1 (yR (cO ?_));exact F1 (O3 rfl rfl) cQ (ObIn.spec (ob':=[(2,X3)]) ⟨rfl,trivial⟩) ⟨rfl,rfl⟩
  ·cases B
 rw[A5 h1]at F;obtain⟨y,hy⟩:∃y,y=x.drop (N+2):=⟨_,rfl⟩
 have an:y.length<=x.length:=by rw[hy,C45];omega
 have G:=FT y (rN N) B1;unfold HP at G;rw[ah]at G;rw[<-hy]at F;by_cases h2:U9 y (rN N)=true;rotate_left
 ·rw[A6 h2]at G;have E:H=none:=by rw[O];exact HY (fun h=>h2 (by rw[hy];exact h.2))
  rw[E];refine AL.Met.intro Tryz.func159 G6 Z Z Z (k2 (B7 (A7 (C1 Z Z) Z (E4 ?_))));refine k1 (k2 (B7 (A7 (B3 Z Z) Z (A7 (E8 Z) Z (A7 (B5 Z) Z (A7 (B5 Z) Z (A7 (C2 Z Z Z) Z (A7 (y8 Z Z B1) Z (D3 (L) (A7 (C1 Z Z) Z (E4 ?_)))))))))));refine k1 (k2 (B7 (A7 (B3 Z Z) Z (A7 (B3 Z Z) Z (A7 (V1 Z Z TQ) Z (D3 (F) (A7 (B3 Z Z) Z (A7 (C9 Z Z) Z (A7 (C9 Z Z) Z (A7 (C1 Z Z) Z (A7 (C1 Z Z) Z (E4 ?_))))))))))));refine k1 (k2 (k2 (B7 (A7 (B3 Z Z) Z (A7 (S7 Z) Z (E4 ?_))))));refine k1 ?_;refine zc 0 (fun B=>?_) fun B=>?_
  ·cases B
  refine k5 (k1 (k2 (k2 (B7 (A7 (B3 Z Z) Z (A7 (B3 Z Z) Z (A7 (V1 Z Z TQ) Z (D3 (G) (A7 (B3 Z Z) Z (A7 (C9 Z Z) Z (A7 (C9 Z Z) Z (A7 (C1 Z Z) Z (A7 (C1 Z Z) Z (E4 ?_))))))))))))));refine k1 (k2 (B7 (A7 (B3 Z Z) Z (A7 (S7 Z) Z (E4 ?_)))));refine k1 ?_;refine zc 0 (fun B=>?_) fun B=>?_
  ·refine k2 (E2 (Sees.forget 731) (B7 (A7 (C1 Z Z) Z (E4 ?_))));refine k1 (yR (cO ?_));exact F1 (O3 rfl rfl) cQ (ObIn.spec (ob':=[(2,X3)]) ⟨rfl,trivial⟩) ⟨rfl,rfl⟩
  ·cases B
 rw[A5 h2]at G;rw[B36 ⟨h1,by rw[<-hy];exact h2⟩,<-hy]at O;obtain⟨z,hz⟩:∃z,z=y.take (y.length-(N+2)):=⟨_,rfl⟩
 have ao:z.length<=x.length:=by rw[hz,C41];omega
 rw[<-hz]at G O;have Y:=A35 z 32 B1;obtain⟨W,hW⟩:∃W,W=O7 32 z:=⟨_,rfl⟩
 have ak:W.length<=z.length+1:=by
  have U:=bH 32 z;have h4:z.count 32<=z.length:=List.count_le_length;rw[hW];omega
 have ac:∀v∈W,v.length<=16777216:=by
  intro v hv;rw[hW]at hv;have:=DZ z v hv;omega
 rw[<-hW]at Y O;have I:S5 N 0 W=none->H=none:=fun h=>by rw[O,h]
 have S:∀a,S5 N 0 W=some a->H=if a.length=N+1 then some a else none:=fun a h=>by rw[O,h]
 refine AL.Met.intro Tryz.func159 G6 Z Z Z (k2 (B7 (A7 (C1 Z Z) Z (E4 ?_))));refine k1 (k2 (B7 (A7 (B3 Z Z) Z (A7 (E8 Z) Z (A7 (B5 Z) Z (A7 (B5 Z) Z (A7 (C2 Z Z Z) Z (A7 (y8 Z Z B1) Z (D3 (L) (A7 (C1 Z Z) Z (E4 ?_)))))))))));refine k1 (k2 (B7 (A7 (B3 Z Z) Z (A7 (B3 Z Z) Z (A7 (V1 Z Z TQ) Z (D3 (F) (A7 (B3 Z Z) Z (A7 (C9 Z Z) Z (A7 (C9 Z Z) Z (A7 (C1 Z Z) Z (A7 (C1 Z Z) Z (E4 ?_))))))))))));refine k1 (k2 (k2 (B7 (A7 (B3 Z Z) Z (A7 (S7 Z) Z (E4 ?_))))));refine k1 ?_;refine zc 0 (fun B=>?_) fun B=>?_
 ·cases B
 refine k5 (k1 (k2 (k2 (B7 (A7 (B3 Z Z) Z (A7 (B3 Z Z) Z (A7 (V1 Z Z TQ) Z (D3 (G) (A7 (B3 Z Z) Z (A7 (C9 Z Z) Z (A7 (C9 Z Z) Z (A7 (C1 Z Z) Z (A7 (C1 Z Z) Z (E4 ?_))))))))))))));refine k1 (k2 (B7 (A7 (B3 Z Z) Z (A7 (S7 Z) Z (E4 ?_)))));refine k1 ?_;refine zc 0 (fun B=>?_) fun B=>?_
 ·cases B
 refine K4 [(0,.s (.one (.ref 730 0))),(6,H6 z),(1000012,H6 x),(1000011,.s (.one (.ref 730 0))),(1000000,.s (.one (.ref 730 0))),(1000001,H6 x),(2000032,H6 x),(2000031,.s (.one (.ref 730 0))),(2000004,.s (.one (.ref 730 0))),(2000002,.s (.one (.ref 2 0))),(2000025,C0 Str 1 L2 R),(2000026,B2 R.length),(2000027,B2 k),(2000006,H6 x)] (d7 w d N hs) (Sees.of lf lo) (k5 (k1 (k2 (B7 (A7 (Y9 Z) Z (B8 (E6 740 Z) Z (O2 (H0 TySz.out Z Z Z Z Z Z) (E4 ?_))))))));refine k1 (k2 (k2 (E2 (B95 741 Int 1 E3 3 (kb:=740) (o:=0) Z Z Z) (B7 (A7 (B3 Z Z) Z (D3 (Y) (A7 (y9 Z (.pure _ _ _ _)) Z (A7 (B3 Z Z) Z (E4 ?_)))))))));refine k1 (k3 (C5 (X:=Nat×List Int) (fun q=>([(0,.s (.one (.ref 730 0))),(8,.s (.one (.ref 740 0))),(45,C0 Str 1 L2 W),(46,B2 W.length),(47,B2 q.1),(1000012,H6 x),(1000011,.s (.one (.ref 730 0))),(1000000,.s (.one (.ref 730 0))),(1000001,H6 x),(2000032,H6 x),(2000031,.s (.one (.ref 730 0))),(2000004,.s (.one (.ref 730 0))),(2000002,.s (.one (.ref 2 0))),(2000025,C0 Str 1 L2 R),(2000026,B2 R.length),(2000027,B2 k),(2000006,H6 x)],[(730,HX w d N),(731,.grow 42 CHunk 2 gW hs),(2,X3),(740,.box [.buf 741 Int 1 E3 q.2,.p (.v (.slice none 0 0))]),(741,.spare q.2.length 1 3)])) (fun q=>q.1<=W.length/\q.2.length=q.1/\S5 N 0 W=(S5 N q.1 (W.drop q.1)).map (q.2++·)) (fun q=>W.length-q.1) (0,[]) ⟨Nat.zero_le _,rfl,by simp⟩ (Sees.of lf lo) ?_));rintro⟨j,a⟩ ⟨hj,ad,K⟩;dsimp only at hj ad K ⊢;refine k2 (B7 (A7 (iD Z Z) Z (E4 ?_)));refine k1 (k2 ?_);refine zc 0 (fun B=>?_) fun B=>?_
 ·have T:j<W.length:=by have:=A0 B;omega
  have hv:W[j]?=some W[j]:=by simp[T]
  have ai:=ac _ (C35 T);rw[C38 T]at K;obtain⟨v,aj⟩:∃v,v=W[j]:=⟨_,rfl⟩
  rw[<-aj]at hv ai K;have C:=aU v [eK N j];unfold FL at C;refine k5 (k1 (k2 (k3 (k2 (B7 (A7 (B3 Z Z) Z (A7 (A9 Z (.pure _ _ _ _) Z B1 hv) Z (A7 (L3 Z Z) Z (A7 (C1 Z Z) Z (A7 (C1 Z Z) Z (E4 ?_)))))))))));refine k1 (k2 (B7 (A7 (C1 Z Z) Z (E4 ?_))));refine k1 ?_;refine bV [(0,.s (.one (.ref 730 0))),(8,.s (.one (.ref 740 0))),(45,C0 Str 1 L2 W),(46,B2 W.length),(47,B2 j),(10,H6 v),(11,H6 [eK N j]),(1000012,H6 x),(1000011,.s (.one (.ref 730 0))),(1000000,.s (.one (.ref 730 0))),(1000001,H6 x),(2000032,H6 x),(2000031,.s (.one (.ref 730 0))),(2000004,.s (.one (.ref 730 0))),(2000002,.s (.one (.ref 2 0))),(2000025,C0 Str 1 L2 R),(2000026,B2 R.length),(2000027,B2 k),(2000006,H6 x)] ([(730,HX w d N),(731,.grow 42 CHunk 2 gW hs),(2,X3),(740,.box [.buf 741 Int 1 E3 a,.p (.v (.slice none 0 0))]),(741,.spare a.length 1 3)]) ?_ ?_
  ·refine k2 (B7 (A7 (B3 Z Z) Z (A7 (B3 Z Z) Z (A7 (E8 Z) Z (A7 (B5 Z) Z (A7 (B5 Z) Z (A7 (C2 Z Z Z) Z (A7 (rW Z Z) Z (E4 ?_)))))))));refine k1 ?_;refine zc 0 (fun B=>?_) fun B=>?_
   ·have af:=A0 B;skip;refine B7 (A7 (C1 Z Z) Z (E4 ?_));refine k1 ?_;rw[show eK N j=43 by unfold eK;rw[A5 B1]];exact Sees.of lf lo
   ·have af:=A1 B;refine k5 (k1 ?_);rw[show eK N j=45 by unfold eK;rw[A6 B1]];exact Sees.of lf lo
  by_cases U:v.take 1=[eK N j]
  rotate_left
  ·have C:FnOk Tryz.prog 155 [E5 v,E5 [eK N j]] (fun Q=>Q=[E5 v,D5 false]):=by
    have h4:¬v.take ([eK N j]:Str).length=[eK N j]:=U;rw[A6 h4]at C;exact C
   have E:H=none:=I (by rw[K,A39 U];rfl);have D:=HM v 0 (Nat.zero_le _) B1;rw[E];cases g:bO v with
   | none =>
    rw[HU (by rw[List.drop_zero];exact g)]at D;refine k2 (B7 (A7 (B3 Z Z) Z (A7 (B3 Z Z) Z (D3 (C) (A7 (B3 Z Z) Z (A7 (C9 Z Z) Z (A7 (C9 Z Z) Z (A7 (C1 Z Z) Z (A7 (C1 Z Z) Z (E4 ?_))))))))));refine k1 (k2 (B7 (A7 (B3 Z Z) Z (D3 (D) (A7 (B3 Z Z) Z (A7 (C9 Z Z) Z (A7 (C9 Z Z) Z (A7 (C9 Z Z) Z (A7 (C9 Z Z) Z (A7 (C1 Z Z) Z (A7 (C1 Z Z) Z (A7 (C1 Z Z) Z (A7 (C1 Z Z) Z (E4 ?_))))))))))))));refine k1 (k2 (k2 (B7 (A7 (B3 Z Z) Z (A7 (S7 Z) Z (A7 (B3 Z Z) Z (C3 Z Z Z Z (fun A=>by rw[A];exact B3 Z Z) ?_)))))));refine C3 Z Z Z Z (fun A=>by rw[A];exact S7 Z) ?_;refine A7 (H9 Z (fun h=>by first | rfl | (rw[h];rfl)) (fun h=>by first | rfl | (rw[h];rfl))) Z ?_;refine A7 (B3 Z Z) Z (C3 Z Z Z Z (fun A=>by rw[A];exact B3 Z Z) ?_);refine C3 Z Z Z Z (fun A=>by rw[A];exact B3 Z Z) ?_;refine C3 Z Z Z Z (fun A=>by rw[A];exact cM Z) ?_;refine C3 Z Z Z Z (fun A=>by rw[A];exact iE Z Z) ?_;refine A7 (H9 Z (fun h=>by first | rfl | (rw[h];rfl)) (fun h=>by first | rfl | (rw[h];rfl))) Z ?_;refine E4 ?_;refine k1 ?_;refine zc 0 (fun B=>?_) fun B=>?_
    ·refine k2 (E2 (Sees.forget 731) (B7 (A7 (C1 Z Z) Z (E4 ?_))));refine k1 (yR (cO (sK (cO (cO (sK (cO ?_)))))));exact F1 (O3 rfl rfl) cQ (ObIn.spec (ob':=[(2,X3)]) ⟨rfl,trivial⟩) ⟨rfl,rfl⟩
    ·exfalso;revert B;simp
   | some q =>
    obtain⟨s,c,e⟩:=q;rw[HV (k:=e) (by rw[List.drop_zero];exact g)]at D;refine k2 (B7 (A7 (B3 Z Z) Z (A7 (B3 Z Z) Z (D3 (C) (A7 (B3 Z Z) Z (A7 (C9 Z Z) Z (A7 (C9 Z Z) Z (A7 (C1 Z Z) Z (A7 (C1 Z Z) Z (E4 ?_))))))))));refine k1 (k2 (B7 (A7 (B3 Z Z) Z (D3 (D) (A7 (B3 Z Z) Z (A7 (C9 Z Z) Z (A7 (C9 Z Z) Z (A7 (C9 Z Z) Z (A7 (C9 Z Z) Z (A7 (C1 Z Z) Z (A7 (C1 Z Z) Z (A7 (C1 Z Z) Z (A7 (C1 Z Z) Z (E4 ?_))))))))))))));refine k1 (k2 (k2 (B7 (A7 (B3 Z Z) Z (A7 (S7 Z) Z (A7 (B3 Z Z) Z (C3 Z Z Z Z (fun A=>by rw[A];exact B3 Z Z) ?_)))))));refine C3 Z Z Z Z (fun A=>by rw[A];exact S7 Z) ?_;refine A7 (H9 Z (fun h=>by first | rfl | (rw[h];rfl)) (fun h=>by first | rfl | (rw[h];rfl))) Z ?_;refine A7 (B3 Z Z) Z (C3 Z Z Z Z (fun A=>by rw[A];exact B3 Z Z) ?_);refine C3 Z Z Z Z (fun A=>by rw[A];exact B3 Z Z) ?_;refine C3 Z Z Z Z (fun A=>by rw[A];exact cM Z) ?_;refine C3 Z Z Z Z (fun A=>by rw[A];exact iE Z Z) ?_;refine A7 (H9 Z (fun h=>by first | rfl | (rw[h];rfl)) (fun h=>by first | rfl | (rw[h];rfl))) Z ?_;refine E4 ?_;refine k1 ?_;refine zc 0 (fun B=>?_) fun B=>?_
    ·refine k2 (E2 (Sees.forget 731) (B7 (A7 (C1 Z Z) Z (E4 ?_))));refine k1 (yR (cO (sK (cO (cO (sK (cO ?_)))))));exact F1 (O3 rfl rfl) cQ (ObIn.spec (ob':=[(2,X3)]) ⟨rfl,trivial⟩) ⟨rfl,rfl⟩
    ·exfalso;revert B;simp
  have C:FnOk Tryz.prog 155 [E5 v,E5 [eK N j]] (fun Q=>Q=[E5 (v.drop 1),D5 true]):=by
   have h4:v.take ([eK N j]:Str).length=[eK N j]:=U;rw[A5 h4]at C;exact C
  obtain⟨u,J⟩:∃u,u=v.drop 1:=⟨_,rfl⟩
  have am:u.length<=16777216:=by rw[J,C45];omega
  rw[<-J]at C;have D:=HM u 0 (Nat.zero_le _) B1;cases g:bO u with
  | none =>
   rw[HU (by rw[List.drop_zero];exact g)]at D;have E:H=none:=I (by rw[K,A40 (by rw[<-J];exact g)];rfl);rw[E];refine k2 (B7 (A7 (B3 Z Z) Z (A7 (B3 Z Z) Z (D3 (C) (A7 (B3 Z Z) Z (A7 (C9 Z Z) Z (A7 (C9 Z Z) Z (A7 (C1 Z Z) Z (A7 (C1 Z Z) Z (E4 ?_))))))))));refine k1 (k2 (B7 (A7 (B3 Z Z) Z (D3 (D) (A7 (B3 Z Z) Z (A7 (C9 Z Z) Z (A7 (C9 Z Z) Z (A7 (C9 Z Z) Z (A7 (C9 Z Z) Z (A7 (C1 Z Z) Z (A7 (C1 Z Z) Z (A7 (C1 Z Z) Z (A7 (C1 Z Z) Z (E4 ?_))))))))))))));refine k1 (k2 (k2 (B7 (A7 (B3 Z Z) Z (A7 (S7 Z) Z (A7 (B3 Z Z) Z (C3 Z Z Z Z (fun A=>by rw[A];exact B3 Z Z) ?_)))))));refine C3 Z Z Z Z (fun A=>by rw[A];exact S7 Z) ?_;refine A7 (H9 Z (fun h=>by first | rfl | (rw[h];rfl)) (fun h=>by first | rfl | (rw[h];rfl))) Z ?_;refine A7 (B3 Z Z) Z (C3 Z Z Z Z (fun A=>by rw[A];exact B3 Z Z) ?_);refine C3 Z Z Z Z (fun A=>by rw[A];exact B3 Z Z) ?_;refine C3 Z Z Z Z (fun A=>by rw[A];exact cM Z) ?_;refine C3 Z Z Z Z (fun A=>by rw[A];exact iE Z Z) ?_;refine A7 (H9 Z (fun h=>by first | rfl | (rw[h];rfl)) (fun h=>by first | rfl | (rw[h];rfl))) Z ?_;refine E4 ?_;refine k1 ?_;refine zc 0 (fun B=>?_) fun B=>?_
   ·refine k2 (E2 (Sees.forget 731) (B7 (A7 (C1 Z Z) Z (E4 ?_))));refine k1 (yR (cO (sK (cO (cO (sK (cO ?_)))))));exact F1 (O3 rfl rfl) cQ (ObIn.spec (ob':=[(2,X3)]) ⟨rfl,trivial⟩) ⟨rfl,rfl⟩
   ·exfalso;revert B;simp
  | some q =>
   obtain⟨s,c,e⟩:=q;rw[HV (k:=e) (by rw[List.drop_zero];exact g),Nat.zero_add]at D;by_cases he:e=u.length;rotate_left
   ·have E:H=none:=I (by rw[K,A41 (by rw[<-J];exact g) (by rw[<-J];exact he)];rfl);rw[E];refine k2 (B7 (A7 (B3 Z Z) Z (A7 (B3 Z Z) Z (D3 (C) (A7 (B3 Z Z) Z (A7 (C9 Z Z) Z (A7 (C9 Z Z) Z (A7 (C1 Z Z) Z (A7 (C1 Z Z) Z (E4 ?_))))))))));refine k1 (k2 (B7 (A7 (B3 Z Z) Z (D3 (D) (A7 (B3 Z Z) Z (A7 (C9 Z Z) Z (A7 (C9 Z Z) Z (A7 (C9 Z Z) Z (A7 (C9 Z Z) Z (A7 (C1 Z Z) Z (A7 (C1 Z Z) Z (A7 (C1 Z Z) Z (A7 (C1 Z Z) Z (E4 ?_))))))))))))));refine k1 (k2 (k2 (B7 (A7 (B3 Z Z) Z (A7 (S7 Z) Z (A7 (B3 Z Z) Z (C3 Z Z Z Z (fun A=>by rw[A];exact B3 Z Z) ?_)))))));refine C3 Z Z Z Z (fun A=>by rw[A];exact S7 Z) ?_;refine A7 (H9 Z (fun h=>by first | rfl | (rw[h];rfl)) (fun h=>by first | rfl | (rw[h];rfl))) Z ?_;refine A7 (B3 Z Z) Z (C3 Z Z Z Z (fun A=>by rw[A];exact B3 Z Z) ?_);refine C3 Z Z Z Z (fun A=>by rw[A];exact B3 Z Z) ?_;refine C3 Z Z Z Z (fun A=>by rw[A];exact cM Z) ?_;refine C3 Z Z Z Z (fun A=>by rw[A];exact iE Z Z) ?_;refine A7 (H9 Z (fun h=>by first | rfl | (rw[h];rfl)) (fun h=>by first | rfl | (rw[h];rfl))) Z ?_;refine E4 ?_;refine k1 ?_;refine zc 0 (fun B=>?_) fun B=>?_
    ·refine k2 (E2 (Sees.forget 731) (B7 (A7 (C1 Z Z) Z (E4 ?_))));refine k1 (yR (cO (sK (cO (cO (sK (cO ?_)))))));exact F1 (O3 rfl rfl) cQ (ObIn.spec (ob':=[(2,X3)]) ⟨rfl,trivial⟩) ⟨rfl,rfl⟩
    ·exfalso;revert B;simp;omega
   rw[VP U (by rw[<-J];exact g) (by rw[<-J];exact he),Option.map_map]at K;refine k2 (B7 (A7 (B3 Z Z) Z (A7 (B3 Z Z) Z (D3 (C) (A7 (B3 Z Z) Z (A7 (C9 Z Z) Z (A7 (C9 Z Z) Z (A7 (C1 Z Z) Z (A7 (C1 Z Z) Z (E4 ?_))))))))));refine k1 (k2 (B7 (A7 (B3 Z Z) Z (D3 (D) (A7 (B3 Z Z) Z (A7 (C9 Z Z) Z (A7 (C9 Z Z) Z (A7 (C9 Z Z) Z (A7 (C9 Z Z) Z (A7 (C1 Z Z) Z (A7 (C1 Z Z) Z (A7 (C1 Z Z) Z (A7 (C1 Z Z) Z (E4 ?_))))))))))))));refine k1 (k2 (k2 (B7 (A7 (B3 Z Z) Z (A7 (S7 Z) Z (A7 (B3 Z Z) Z (C3 Z Z Z Z (fun A=>by rw[A];exact B3 Z Z) ?_)))))));refine C3 Z Z Z Z (fun A=>by rw[A];exact S7 Z) ?_;refine A7 (H9 Z (fun h=>by first | rfl | (rw[h];rfl)) (fun h=>by first | rfl | (rw[h];rfl))) Z ?_;refine A7 (B3 Z Z) Z (C3 Z Z Z Z (fun A=>by rw[A];exact B3 Z Z) ?_);refine C3 Z Z Z Z (fun A=>by rw[A];exact B3 Z Z) ?_;refine C3 Z Z Z Z (fun A=>by rw[A];exact cM Z) ?_;refine C3 Z Z Z Z (fun A=>by rw[A];exact iE Z Z) ?_;refine A7 (H9 Z (fun h=>by first | rfl | (rw[h];rfl)) (fun h=>by first | rfl | (rw[h];rfl))) Z ?_;refine E4 ?_;refine k1 ?_;refine zc 0 (fun B=>?_) fun B=>?_
   ·exfalso;revert B;simp;omega
   refine K4 [(0,.s (.one (.ref 730 0))),(8,.s (.one (.ref 740 0))),(45,C0 Str 1 L2 W),(46,B2 W.length),(47,B2 j),(14,B2 s),(1000012,H6 x),(1000011,.s (.one (.ref 730 0))),(1000000,.s (.one (.ref 730 0))),(1000001,H6 x),(2000032,H6 x),(2000031,.s (.one (.ref 730 0))),(2000004,.s (.one (.ref 730 0))),(2000002,.s (.one (.ref 2 0))),(2000025,C0 Str 1 L2 R),(2000026,B2 R.length),(2000027,B2 k),(2000006,H6 x)] ([(730,HX w d N),(731,.grow 42 CHunk 2 gW hs),(2,X3),(740,.box [.buf 741 Int 1 E3 a,.p (.v (.slice none 0 0))]),(741,.spare a.length 1 3)]) (Sees.of lf lo) (k5 (k1 (B7 (A7 (B5 Z) Z (A7 (C2 Z Z Z) Z (A7 (B3 Z Z) Z (A7 (C6 (c:=E3) (ys:=[s]) (D1 Z Z Z Z F2) Z Z Z) Z (B8 (R1 Z Z Z (.pure _ _ _ _) b8q Z) Z (A7 (B5 Z) Z (O2 (H0 TySz.out Z Z Z Z Z Z) (E4 ?_)))))))))));refine k4 (k1 (B7 (A7 (y8 Z Z B1) Z (A7 (B3 Z Z) Z (E4 ?_)))));refine k1 ?_;refine⟨(j+1,a++[s]),⟨by dsimp only;omega,by dsimp only;rw[C32];simp;omega,?_⟩,by dsimp only;omega,Sees.of lf lo⟩;dsimp only;rw[K]
   congr 1
   funext q;simp
 ·have ae:j=W.length:=by have:=A1 B;omega
  rw[ae,C51 (Nat.le_refl _)]at K;have K:S5 N 0 W=some a:=by rw[K,S5];simp
  have M:=S a K;refine K4 [(0,.s (.one (.ref 730 0))),(8,.s (.one (.ref 740 0))),(1000012,H6 x),(1000011,.s (.one (.ref 730 0))),(1000000,.s (.one (.ref 730 0))),(1000001,H6 x),(2000032,H6 x),(2000031,.s (.one (.ref 730 0))),(2000004,.s (.one (.ref 730 0))),(2000002,.s (.one (.ref 2 0))),(2000025,C0 Str 1 L2 R),(2000026,B2 R.length),(2000027,B2 k),(2000006,H6 x)] ([(730,HX w d N),(731,.grow 42 CHunk 2 gW hs),(2,X3),(740,.box [.buf 741 Int 1 E3 a,.p (.v (.slice none 0 0))]),(741,.spare a.length 1 3)]) (Sees.of lf lo) (k6 (k2 (Q9 [12,8] [[],[8],[12,8]] [(8,([731],[96])),(12,([],[]))] [(0,[]),(1,[]),(2,[]),(3,[]),(4,[]),(5,[]),(6,[]),(7,[]),(8,[]),(9,[8]),(10,[8]),(11,[8]),(12,[8])] [(0,[8])] F6 F6 (D6 Z Z F6 Z Z (B3 Z Z) (D6 Z Z F6 Z Z (B3 Z Z) (D6 Z Z F6 Z Z (E8 Z) (D6 Z Z F6 Z Z (B5 Z) (D6 Z Z F6 Z Z (B5 Z) (D6 Z Z F6 Z Z (C2 Z Z Z) (D6 Z Z F6 Z Z (I0 Z Z Z) (D6 Z Z F6 Z Z (C6 (c:=gW) (ys:=[⟨a,[]⟩]) (D1 Z Z Z Z F2) Z Z Z) (Z9 Z Z F6 Z Z (jJ (fun ab V=>x8 (W9 V Z) Z (W9 V Z) (.pure _ _ _ _) TQ Z)) Z (D6 Z Z F6 Z Z (E8 Z) (D6 Z Z F6 Z Z (B5 Z) (D6 Z Z F6 Z Z (B5 Z) (Z9 Z Z F6 Z Z (sR (fun ab V=>H0 TySz.out (W9 V Z) Z (W9 V Z) Z Z Z)) Z ?_))))))))))))))));refine sQ F6 rfl ?_ ?_
  ·refine L6 Z Z F6 Z Z (B3 Z Z) ?_;exact pC
  refine k1 (k2 (oW F6 F6 (D7 (B5 Z) Z Z (D7 (C2 Z Z Z) Z Z (D7 (y9 Z (.buf _ _ _ _ _)) Z Z (D7 (B3 Z Z) Z Z (D7 (E8 Z) Z Z (D7 (B5 Z) Z Z (D7 (B5 Z) Z Z (D7 (C2 Z Z Z) Z Z (D7 (y8 Z Z B1) Z Z (D7 (rW Z Z) Z Z (D7 (C1 Z Z) Z Z (d_nil ?_))))))))))))));refine k1 (yR ?_);by_cases P:a.length=N+1
  ·rw[A5 P]at M;rw[M];refine F1 (ob':=d7 w d N (hs++[⟨a,[]⟩])) (O3 rfl rfl) cQ (ObIn.spec ⟨rfl,rfl,rfl,trivial⟩) ⟨?_,rfl⟩;rw[A3 B1]
  ·rw[A6 P]at M;rw[M];refine F1 (ob':=[(2,X3)]) (O3 rfl rfl) cQ (ObIn.spec ⟨rfl,trivial⟩) ⟨?_,rfl⟩;rw[A4 B1]
theorem B37(x:Str)(R:List Str)(k:Nat)(w:Str)(d:Bool)(N:Nat)(hs:List CHunk)(u:1<=N/\N<=32)(y:hs.length<=16777216)(z:x.length<=4194304)(j:x.take 1=[64]) :
  AL.Met Tryz.prog 86 [.one (.ref 730 0),.one (.p (.v (.string ⟨x.toArray⟩)))] (gfL x R k) (d7 w d N hs) [731]
   (fun rs ob'=>match fJ N x with
    | none=>rs=[UU false]/\ob'=[(2,X3)]
    | some a=>rs=[UU true]/\ob'=d7 w d N (hs++[⟨a,[]⟩])):=by
 have c:=QA x R k w d N hs u y z;have m:=eE x [64];rw[show ([64]:Str).length=1 from rfl,A3 j]at m;cases q:fJ N x with
 | none =>
  rw[q]at c;refine AL.Met.intro Tryz.func86 G6 Z Z Z (zz 8 ?_);refine D3 (m) ?_;refine zc 1 (fun b=>?_) fun b=>?_;rotate_left
  ·cases b
  refine K4 [(0,.s (.one (.ref 730 0))),(1,H6 x),(1000032,H6 x),(1000031,.s (.one (.ref 730 0))),(1000004,.s (.one (.ref 730 0))),(1000002,.s (.one (.ref 2 0))),(1000025,C0 Str 1 L2 R),(1000026,B2 R.length),(1000027,B2 k),(1000006,H6 x)] (d7 w d N hs) (Sees.of lf lo) (zz 4 ?_);refine S9 (c) Z Z Z ?_;rintro _ _ ⟨rfl,rfl⟩;refine zz 3 ?_;exact F1 (O3 rfl rfl) cQ (ObIn.spec (ob':=[(2,X3)]) ⟨rfl,trivial⟩) ⟨rfl,rfl⟩
 | some a =>
  rw[q]at c;refine AL.Met.intro Tryz.func86 G6 Z Z Z (zz 8 ?_);refine D3 (m) ?_;refine zc 1 (fun b=>?_) fun b=>?_;rotate_left
  ·cases b
  refine K4 [(0,.s (.one (.ref 730 0))),(1,H6 x),(1000032,H6 x),(1000031,.s (.one (.ref 730 0))),(1000004,.s (.one (.ref 730 0))),(1000002,.s (.one (.ref 2 0))),(1000025,C0 Str 1 L2 R),(1000026,B2 R.length),(1000027,B2 k),(1000006,H6 x)] (d7 w d N hs) (Sees.of lf lo) (zz 4 ?_);refine S9 (c) Z Z Z ?_;rintro _ _ ⟨rfl,rfl⟩;refine zz 3 ?_;exact F1 (O3 rfl rfl) cQ (ObIn.spec (ob':=d7 w d N (hs++[⟨a,[]⟩])) ⟨rfl,rfl,rfl,trivial⟩) ⟨rfl,rfl⟩
theorem A42(x:Str)(R:List Str)(k:Nat)(w:Str)(d:Bool)(N:Nat)(b:x.take 1≠[64]) :
  AL.Met Tryz.prog 86 [.one (.ref 730 0),.one (.p (.v (.string ⟨x.toArray⟩)))] (gfL x R k) (d7 w d N []) [732] (fun rs ob'=>rs=[UU false]/\ob'=[(2,X3)]):=by
 have c:=eE x [64];rw[show ([64]:Str).length=1 from rfl,A4 b]at c;refine AL.Met.intro Tryz.func86 G6 Z Z Z (zz 8 ?_);refine D3 (c) ?_;refine zc 1 (fun a=>?_) fun a=>?_
 ·cases a
 refine zc 12 (fun a=>?_) fun a=>?_
 ·refine k2 (E2 (Sees.forget 732) (zz 4 ?_));exact F1 (O3 rfl rfl) cQ (ObIn.spec (ob':=[(2,X3)]) ⟨rfl,trivial⟩) ⟨rfl,rfl⟩
 ·cases a
theorem b3x{p:Prop}(h:p:=by rw[List.length_dropLast,C32,List.length_dropLast];simp):p:=h
theorem A43(R:List Str)(k:Nat)(w:Str)(d:Bool)(N:Nat)(hs:List CHunk)(a:List Int)(rs:List Row)(I:0<hs.length)(L:hs.length<=16777216)(G:rs.length<=16777216)(A:∀r∈rs,r.Text.length<=1073741824) :
  AL.Met Tryz.prog 86 [.one (.ref 730 0),.one (.p (.v (.string ⟨noNl.toArray⟩)))] (gfL noNl R k) (d9 w d N hs a rs) []
   (fun u ob'=>match rs.getLast? with
    | none=>u=[UU false]/\ob'=[(2,X3)]
    | some r=>u=[UU true]/\ob'=d9 w d N hs a (rs.dropLast++[⟨r.Lost,r.Marks,mY r.Text⟩])):=by
 have z:=eE noNl [64];rw[show decide (noNl.take ([64]:Str).length=[64])=false from rfl]at z;have D:decide ((hs.length:Int)=0)=false:=A4 B1;cases x:rs.getLast? with
 | none =>
  have F:rs=[]:=List.getLast?_eq_none_iff.1 x;subst F;refine AL.Met.intro Tryz.func86 G6 Z Z Z (zz 8 ?_);refine D3 (z) ?_;refine zc 1 (fun b=>?_) fun b=>?_
  ·cases b
  refine zc 12 (fun b=>?_) fun b=>?_
  ·exact absurd (A0 b) B1
  refine zc 24 (fun b=>?_) fun b=>?_;rotate_left
  ·exact absurd rfl (A1 b)
  refine zz 6 ?_;refine A7 (eM Z Z b9w Z) Z ?_;refine zc 3 (fun b=>?_) fun b=>?_;rotate_left
  ·exact absurd rfl (A1 b)
  refine zz 5 ?_;exact F1 (O3 rfl rfl) cQ (ObIn.spec (ob':=[(2,X3)]) ⟨rfl,trivial⟩) ⟨rfl,rfl⟩
 | some r =>
  have c:rs≠[]:=fun e=>by rw[e]at x;cases x
  have C:=List.length_pos_iff.2 c;have B:rs[((rs.length:Int)-1).toNat]?=some r:=by rw[show ((rs.length:Int)-1).toNat=rs.length-1 by omega,<-List.getLast?_eq_getElem?];exact x
  have m:∀y:Row,rs.set (((rs.length:Int)-1).toNat) y=rs.dropLast++[y]:=by
   intro y;rw[show ((rs.length:Int)-1).toNat=rs.length-1 by omega];have E:=List.dropLast_concat_getLast c
   conv=>lhs;rw[<-E]
   rw[List.set_append_right _ _ b3x];simp
  have H:=A r (C53 B);have q:=gS r.Text [10] B1;rw[pR,show jW r.Text=mY r.Text from rfl]at q;refine AL.Met.intro Tryz.func86 G6 Z Z Z (zz 8 ?_);refine D3 (z) ?_;refine zc 1 (fun b=>?_) fun b=>?_
  ·cases b
  refine zc 12 (fun b=>?_) fun b=>?_
  ·exact absurd (A0 b) B1
  refine zc 24 (fun b=>?_) fun b=>?_;rotate_left
  ·exact absurd rfl (A1 b)
  refine zz 6 ?_;refine A7 (eM Z Z b9w Z) Z ?_;refine zc 3 (fun b=>?_) fun b=>?_
  ·exact absurd (A0 b) B1
  refine zz 4 ?_;refine D7 (S6 Z) Z Z (D7 (Y7 Z) Z Z (D7 (eM Z Z b9w Z) Z Z (zz 1 ?_)));refine D7 (S6 Z) Z Z (D7 (Y7 Z) Z Z (D7 (eM Z Z b9w Z) Z Z (D7 (KH Z Z) Z Z (zz 1 ?_))));refine D7 (U2 Z Z Z B1 B1) Z Z (zz 8 ?_);refine A7 (sU Z Z B Z) Z (D3 (q) (zz 2 ?_));refine O2 (iJ (⟨r.Lost,r.Marks,mY r.Text⟩) TySz.out Z Z B Z Z Z Z (fun _ _ _ h=>eS h) (by intro j J K;rcases j with _ | _ | _ | _ | _ | _ | _ | j<;>first | rfl | omega)) ?_;refine zz 1 ?_;rw[m];refine zz 5 ?_;exact F1 (O3 rfl rfl) cQ (ObIn.spec (ob':=d9 w d N hs a (rs.dropLast++[⟨r.Lost,r.Marks,mY r.Text⟩])) ⟨rfl,rfl,rfl,rfl,trivial⟩) ⟨rfl,rfl⟩
theorem A44(x:Str)(R:List Str)(k:Nat)(w:Str)(d:Bool)(N:Nat)(hs:List CHunk)(a:List Int)(rs:List Row)(F:0<hs.length)(G:hs.length<=16777216)(E:rs.length<=16777216)(H:x.length<=4194304)(B:x.take 1≠[64])(y:x≠noNl) :
  AL.Met Tryz.prog 86 [.one (.ref 730 0),.one (.p (.v (.string ⟨x.toArray⟩)))] (gfL x R k) (d9 w d N hs a rs) [732]
   (fun z ob'=>match iX (x++[10]) N with
    | none=>z=[UU false]/\ob'=[(2,X3)]
    | some r=>z=[UU true]/\ob'=d9 w d N hs a (rs++[r])):=by
 have C:=eE x [64];rw[show ([64]:Str).length=1 from rfl,A4 B]at C;have A:=pRow_ok (x++[10]) N;cases D:iX (x++[10]) (N:Int) with
 | none =>
  rw[nY D]at A;refine AL.Met.intro Tryz.func86 G6 Z Z Z (zz 8 ?_);refine D3 (C) ?_;refine zc 1 (fun b=>?_) fun b=>?_
  ·cases b
  refine zc 12 (fun b=>?_) fun b=>?_
  ·exact absurd (A0 b) B1
  refine zc 24 (fun b=>?_) fun b=>?_
  ·exact absurd (A0 b) y
  refine K4 [(0,.s (.one (.ref 730 0))),(1,H6 x),(5,.s (.one (.mref 731 2 ((hs.length:Int)-1).toNat 0))),(1000032,H6 x),(1000031,.s (.one (.ref 730 0))),(1000004,.s (.one (.ref 730 0))),(1000002,.s (.one (.ref 2 0))),(1000025,C0 Str 1 L2 R),(1000026,B2 R.length),(1000027,B2 k),(1000006,H6 x)] (d9 w d N hs a rs) (Sees.of lf lo) (zz 10 ?_);refine D3 (A) (zz 3 ?_);refine B8 (E6 733 Z) Z (zz 4 ?_);refine Q9 [10,7] [[],[7],[10,7]] [(7,([732],[76])),(10,([],[]))] [(0,[]),(1,[]),(2,[]),(3,[]),(4,[]),(5,[]),(6,[]),(7,[]),(8,[7]),(9,[7]),(10,[7])] [(0,[7])] F6 F6 (D6 Z Z F6 Z Z (B3 Z Z) (D6 Z Z F6 Z Z (B3 Z Z) (D6 Z Z F6 Z Z (S6 Z) (D6 Z Z F6 Z Z (Y7 Z) (D6 Z Z F6 Z Z (eM Z Z b9w Z) (D6 Z Z F6 Z Z (I0 Z Z Z) (D6 Z Z F6 Z Z (C6 (c:=rowC) (ys:=[⟨false,0,[]⟩]) (D1 Z Z Z Z F2) Z Z Z) (Z9 Z Z F6 Z Z (jJ (fun q j=>x8 (W9 j Z) Z (W9 j Z) (.pure _ _ _ _) TQ Z)) Z (D6 Z Z F6 Z Z (S6 Z) (D6 Z Z F6 Z Z (Y7 Z) (Z9 Z Z F6 Z Z (sR (fun q j=>AY TySz.out (W9 j Z) Z b9w (W9 j Z) Z Z Z)) Z ?_)))))))))));refine sQ F6 rfl ?_ ?_
  ·refine L6 Z Z F6 Z Z (B3 Z Z) ?_;exact pC
  refine zz 6 ?_;exact F1 (O3 rfl rfl) cQ (ObIn.spec (ob':=[(2,X3)]) ⟨rfl,trivial⟩) ⟨rfl,rfl⟩
 | some r =>
  rw[HT D]at A;refine AL.Met.intro Tryz.func86 G6 Z Z Z (zz 8 ?_);refine D3 (C) ?_;refine zc 1 (fun b=>?_) fun b=>?_
  ·cases b
  refine zc 12 (fun b=>?_) fun b=>?_
  ·exact absurd (A0 b) B1
  refine zc 24 (fun b=>?_) fun b=>?_
  ·exact absurd (A0 b) y
  refine K4 [(0,.s (.one (.ref 730 0))),(1,H6 x),(5,.s (.one (.mref 731 2 ((hs.length:Int)-1).toNat 0))),(1000032,H6 x),(1000031,.s (.one (.ref 730 0))),(1000004,.s (.one (.ref 730 0))),(1000002,.s (.one (.ref 2 0))),(1000025,C0 Str 1 L2 R),(1000026,B2 R.length),(1000027,B2 k),(1000006,H6 x)] (d9 w d N hs a rs) (Sees.of lf lo) (zz 10 ?_);refine D3 (A) (zz 3 ?_);refine B8 (E6 733 Z) Z (zz 4 ?_);refine Q9 [10,7] [[],[7],[10,7]] [(7,([732],[76])),(10,([],[]))] [(0,[]),(1,[]),(2,[]),(3,[]),(4,[]),(5,[]),(6,[]),(7,[]),(8,[7]),(9,[7]),(10,[7])] [(0,[7])] F6 F6 (D6 Z Z F6 Z Z (B3 Z Z) (D6 Z Z F6 Z Z (B3 Z Z) (D6 Z Z F6 Z Z (S6 Z) (D6 Z Z F6 Z Z (Y7 Z) (D6 Z Z F6 Z Z (eM Z Z b9w Z) (D6 Z Z F6 Z Z (I0 Z Z Z) (D6 Z Z F6 Z Z (C6 (c:=rowC) (ys:=[r]) (D1 Z Z Z Z F2) Z Z Z) (Z9 Z Z F6 Z Z (jJ (fun q j=>x8 (W9 j Z) Z (W9 j Z) (.pure _ _ _ _) TQ Z)) Z (D6 Z Z F6 Z Z (S6 Z) (D6 Z Z F6 Z Z (Y7 Z) (Z9 Z Z F6 Z Z (sR (fun q j=>AY TySz.out (W9 j Z) Z b9w (W9 j Z) Z Z Z)) Z ?_)))))))))));refine sQ F6 rfl ?_ ?_
  ·refine L6 Z Z F6 Z Z (B3 Z Z) ?_;exact pC
  refine zz 6 ?_;exact F1 (O3 rfl rfl) cQ (ObIn.spec (ob':=d9 w d N hs a (rs++[r])) ⟨rfl,rfl,rfl,rfl,trivial⟩) ⟨rfl,rfl⟩
def FU(w:Str)(d:Bool)(n:Int)(hs:List CHunk):Obs:=match hs.getLast? with
 | some h=>(match h.Rows with
  | []=>d7 w d n hs
  | _::_=>d9 w d n hs h.At h.Rows)
 | none=>d7 w d n hs
variable {P:Program}{nt:Nat}{fr:Fr}{w:Str}{d:Bool}{n:Int}{hs:List CHunk}
theorem shutC{h:CHunk}(j:G5 732 fr=true)(l:hs.getLast?=some h)(e:h.Rows≠[]):Sees P nt fr (d9 w d n hs h.At h.Rows) fr (d7 w d n hs):=by
 have f:=Sees.freezeG (P:=P) (nt:=nt) (fr:=fr) (ob:=d9 w d n hs h.At h.Rows) (k:=732) rfl rfl;rw[GO j]at f;refine f.trans ?_;have c:hs.set (hs.length-1) h=hs:=by
  have g:=BR l;have b:hs.length-1=hs.dropLast.length:=by rw[List.length_dropLast]
  conv=>lhs;rw[b];arg 1;rw[g]
  rw[List.set_append_right _ _ (Nat.le_refl _),C86,List.set_cons_zero,<-g]
 have i:=C17 (P:=P) (nt:=nt) (fr:=fr) (ob:=B94 (Ob.freeze 732 Row 3 rowC h.Rows) (Obs.drop 732 (d9 w d n hs h.At h.Rows))) 731 h rfl (by
  obtain⟨a,m⟩:=h;cases m with
  | nil=>exact absurd rfl e
  | cons x r=>rfl)
 rw[c]at i;refine i.trans (B96 (ObIn.spec ⟨rfl,rfl,rfl,trivial⟩))
theorem openC2{h:CHunk}(g:G5 732 fr=true)(j:hs.getLast?=some h)(f:h.Rows=[]):Sees P nt fr (d7 w d n hs) fr (d9 w d n hs h.At []):=by
 have k:hs[hs.length-1]?=some h:=by rw[<-List.getLast?_eq_getElem?];exact j
 refine (C23 731 (hs.length-1) (v:=h) Z k).trans ?_;have b:(cellsOf gW h 0 2).map TC.p=[.p (.list Int 1 E3 h.At),.p (.v (.slice none 0 0))]:=by
  obtain⟨a,q⟩:=h;have f:q=[]:=f;subst f;rfl
 rw[b];refine (C19 732 Row 3 rowC 89 (kb:=731) (o:=1) Z Z (by rw[g];rfl)).trans ?_;exact B96 (ObIn.spec ⟨rfl,rfl,rfl,rfl,trivial⟩)
theorem LS(b:G5 732 fr=true):Sees P nt fr (FU w d n hs) fr (d7 w d n hs):=by
 unfold FU;cases c:hs.getLast? with
 | none=>exact B96 fun _ _ h=>h
 | some h =>
  dsimp only;cases a:h.Rows with
  | nil=>exact B96 fun _ _ h=>h
  | cons x r =>
   dsimp only;rw[<-a];exact shutC b c (by rw[a];simp)
theorem toOpenC{h:CHunk}(b:G5 732 fr=true)(a:hs.getLast?=some h):Sees P nt fr (FU w d n hs) fr (d9 w d n hs h.At h.Rows):=by
 unfold FU;rw[a];dsimp only;cases c:h.Rows with
 | nil=>dsimp only;exact openC2 b a c
 | cons x r=>exact B96 fun _ _ h=>h
theorem ofShutC{a:List Int}:FU w d n (hs++[⟨a,[]⟩])=d7 w d n (hs++[⟨a,[]⟩]):=by unfold FU;simp
theorem YX{h:CHunk}{a:List Row}(o:hs.getLast?=some h)(c:a≠[]):Sees P nt fr (d9 w d n hs h.At a) fr (FU w d n (hs.dropLast++[⟨h.At,a⟩])):=by
 have f:=BR o;have b:(hs.dropLast++[(⟨h.At,a⟩:CHunk)]).length=hs.length:=by
  conv=>rhs;rw[f]
  simp
 have m:FU w d n (hs.dropLast++[⟨h.At,a⟩])=d9 w d n (hs.dropLast++[⟨h.At,a⟩]) h.At a:=by
  unfold FU;cases a with
  | nil=>exact absurd rfl c
  | cons x r=>simp
 rw[m]
 have j:=Sees.reA (P:=P) (nt:=nt) (fr:=fr) (ob:=d9 w d n hs h.At a) 731 (hs.dropLast++[⟨h.At,a⟩]) rfl b (by
  intro i q;have p:hs.dropLast.length=hs.length-1:=by rw[List.length_dropLast]
  rcases Nat.lt_or_ge i (hs.length-1) with k | k
  ·rw[C46 B1]
   conv=>rhs;rw[f]
   rw[C46 B1]
  ·rw[C49 B1,C49 B1])
 rw[show (hs.length-1)=(hs.dropLast++[(⟨h.At,a⟩:CHunk)]).length-1 by rw[b]]at j;exact j.trans (B96 (ObIn.spec ⟨rfl,rfl,rfl,rfl,trivial⟩))
theorem VQ{x:CHunk}(j:Nat)(b:Rd)(u:Value)(h:(gW x j).rep b u):(M3 x j).rep b u:=by
 match j with
 | 0=>exact h
 | j+1 =>
  obtain⟨a,d⟩:=x;cases d with
  | nil =>
   have h:(Cell.v (.slice none 0 0)).rep b u:=h;obtain⟨rfl,_⟩:=h;exact F0 _ _ _
  | cons y r=>exact h
def s8(l:List Str):List PV:=match r5 l with
 | some p=>[N5 p,D5 true]
 | none=>[N5 comb0,D5 false]
theorem A45(l:List Str)(hw:(l.map fW).sum<=268435456)(O:∀s∈l,s.length<=4194304):FnOk Tryz.prog 33 [Z7 l] (fun rs=>rs=s8 l):=by
 have Y:420*l.length<=(l.map fW).sum:=by
  clear hw O;induction l with
  | nil=>simp
  | cons x r ih =>
   have e:fW x=420*(x.length+1):=rfl;simp only[C39,C67,C34,e];omega
 by_cases Q:l.length<2
 ·have hp:r5 l=none:=by
   match l,Q with
   | [],_=>rfl
   | [_],_=>rfl
  have hb:decide ((l.length:Int)<2)=true:=A3 B1;refine FnOk.intro Tryz.func33 G6 Z Z Z Z (zz 2 ?_);refine B8 (E6 2 Z) Z (zz 5 ?_);refine B8 (P3 730 Z Z Z) Z (zz 9 ?_);refine aM Z Z (by rw[hb];decide) Z Z ?_;refine aM Z Z (by rw[hb];decide) Z Z ?_;refine aM Z Z (by rw[hb];decide) Z Z ?_;refine aM Z Z (by rw[hb];decide) Z Z ?_;refine aM Z Z (by rw[hb];decide) Z Z ?_;refine aM Z Z (by rw[hb];decide) Z Z ?_;refine aM Z Z (by rw[hb];decide) Z Z ?_;refine aM Z Z (by rw[hb];decide) Z Z ?_;refine aM Z Z (by rw[hb];decide) Z Z ?_;refine D7 (OD Z (hb) Z) Z Z ?_;refine zc 1 (fun c=>?_) fun c=>?_;rotate_left
  ·cases c
  refine zz 6 ?_;refine E2 (B92 CHunk 2 M3 2 3 Z Z) (zz 1 ?_);exact A8 (rs:=[N5 comb0,D5 false]) (S0 rfl rfl rfl rfl rfl rfl rfl) (by unfold s8;rw[hp])
 obtain⟨F,G,R,rfl⟩:∃a b r,l=a::b::r:=by
  match l,Q with
  | a::b::r,_=>exact⟨a,b,r,rfl⟩
  | [],h=>exact absurd s6 h
  | [_],h=>exact absurd s6 h
 have z0:=O F s6;have z1:=O G s6;have aj:(R.map fW).sum<=268435456:=by simp only[C39,C67]at hw;omega
 have ai:R.length<=16777216:=by simp only[C34]at Y;omega
 clear hw Y;have hb:decide (((F::G::R).length:Int)<2)=false:=A4 b6x;have V:(F::G::R)[(0:Int).toNat]?=some F:=rfl;have W:(F::G::R)[(1:Int).toNat]?=some G:=rfl;have A:=fun gf=>VO (gf:=gf) F G z0 z1;cases S:bI true F G with
 | none =>
  rw[S]at A;have hp:r5 (F::G::R)=none:=by unfold r5;dsimp only;rw[S]
  refine FnOk.intro Tryz.func33 G6 Z Z Z Z (zz 2 ?_);refine B8 (E6 2 Z) Z (zz 5 ?_);refine B8 (P3 730 Z Z Z) Z (zz 4 ?_);refine eY 11 F6 F6 Z (zz 4 ?_);refine V9 Z Z hb Z (zz 1 ?_);refine V9 Z Z hb Z (zz 1 ?_);refine V9 Z Z hb Z (D7 (A9 Z (.pure _ _ _ _) Z B1 V) Z Z (V9 Z Z hb Z (zz 1 ?_)));refine V9 Z Z hb Z (zz 1 ?_);refine V9 Z Z hb Z (D7 (A9 Z (.pure _ _ _ _) Z B1 W) Z Z (V9 Z Z hb Z (zz 2 ?_)));refine vB Z Z hb (lR (A _) Z Z Z ?_);rintro _ _ ⟨w,d,n,ok,rfl,rfl,rfl⟩;refine⟨_,rfl,?_⟩;refine V9 Z Z hb Z (D7 (S7 Z) Z Z (D7 (eT Z (hb) Z) Z Z (zz 1 ?_)));refine zc 0 (fun c=>?_) fun c=>?_;rotate_left
  ·cases c
  refine zz 6 ?_;refine E2 (B92 CHunk 2 M3 2 3 Z Z) (zz 1 ?_);exact A8 (rs:=[N5 comb0,D5 false]) (S0 rfl rfl rfl rfl rfl rfl rfl) (by unfold s8;rw[hp])
 | some q =>
  obtain⟨d,w,n⟩:=q;rw[S]at A;have hn:=HW S;obtain⟨N,rfl⟩:∃N:Nat,n=N:=⟨n.toNat,by omega⟩
  have hN:1<=N/\N<=32:=by omega
  have ad:∀hs,p9 N [] R=some hs->[N5 ⟨w,d,N,hs⟩,D5 true]=s8 (F::G::R):=by
   intro hs h;have:r5 (F::G::R)=some ⟨w,d,N,hs⟩:=by unfold r5;dsimp only;rw[S];dsimp only;rw[C31,h]
   unfold s8;rw[this]
  have C:p9 N [] R=none->[N5 comb0,D5 false]=s8 (F::G::R):=by
   intro h;have:r5 (F::G::R)=none:=by unfold r5;dsimp only;rw[S];dsimp only;rw[C31,h]
   unfold s8;rw[this]
  refine FnOk.intro Tryz.func33 G6 Z Z Z Z (zz 2 ?_);refine B8 (E6 2 Z) Z (zz 5 ?_);refine B8 (P3 730 Z Z Z) Z (zz 4 ?_);refine eY 11 F6 F6 Z (zz 4 ?_);refine V9 Z Z hb Z (zz 1 ?_);refine V9 Z Z hb Z (zz 1 ?_);refine V9 Z Z hb Z (D7 (A9 Z (.pure _ _ _ _) Z B1 V) Z Z (V9 Z Z hb Z (zz 1 ?_)));refine V9 Z Z hb Z (zz 1 ?_);refine V9 Z Z hb Z (D7 (A9 Z (.pure _ _ _ _) Z B1 W) Z Z (V9 Z Z hb Z (zz 2 ?_)));refine vB Z Z hb (lR (A _) Z Z Z ?_);rintro _ _ ⟨w',J,n',ok,rfl,rfl,rfl,rfl,rfl,rfl⟩;refine⟨_,rfl,?_⟩;refine V9 Z Z hb Z (D7 (S7 Z) Z Z (D7 (eT Z (hb) Z) Z Z (zz 1 ?_)));refine zc 0 (fun c=>?_) fun c=>?_
  ·cases c
  refine zz 5 ?_;refine A7 (bT Z (.pure _ _ _ _) Z (by (first | omega | (simp only[C34];omega))) (by (first | omega | (simp only[C34];omega)))) Z (zz 4 ?_);refine E2 (C06 731 CHunk 2 gW 42 (kb:=730) (o:=3) Z Z Z) (C5 (X:=Nat×List CHunk) (fun x=>([(4,.s (.one (.ref 730 0))),(2,.s (.one (.ref 2 0))),(25,C0 Str 1 L2 R),(26,B2 R.length),(27,B2 x.1)],FU w' J N x.2)) (fun x=>x.1<=R.length/\CInv N x.2/\eO x.2<=VN R x.1/\p9 N x.2 (R.drop x.1)=p9 N [] R) (fun x=>R.length-x.1) (0,[]) ⟨Nat.zero_le _,(fun h T=>(by cases T)),(by simp[eO]),rfl⟩ (Sees.of lf lo) ?_);rintro⟨k,hs⟩ ⟨hk,U,hz,H⟩;dsimp only at hk U hz H ⊢;have am:VN R k<=(R.map fW).sum:=by
   unfold VN
   conv=>rhs;rw[<-C70 k R,C50,C76]
   omega
  have al:=kT hs;refine zc 5 (fun c=>?_) fun c=>?_
  ·have E:k<R.length:=by have:=A0 c;omega
   obtain⟨x,hx⟩:∃x,x=R[k]:=⟨_,rfl⟩
   have hv:R[k]?=some x:=by rw[hx];simp[E]
   have ac:=O x (by simp[C53 hv]);have ah:=A38 E;rw[<-hx]at ah;rw[C38 E,<-hx,p9]at H;have D:∀{g},Y6 N hs x=some g->p9 N g (R.drop (k+1))=p9 N [] R/\eO g<=VN R (k+1)/\CInv N g:=by
    intro g hg;rw[hg]at H;have h3:=PX hN hg U;exact⟨H,by omega,h3.2⟩
   have B:Y6 N hs x=none->p9 N [] R=none:=by intro h;rw[h]at H;exact H.symm
   clear H hx;refine zz 5 ?_;refine A7 (A9 Z (.pure _ _ _ _) Z B1 hv) Z (zz 4 ?_);by_cases z:x.take 1=[64]
   ·refine E2 (LS Z) (K4 [(4,.s (.one (.ref 730 0))),(2,.s (.one (.ref 2 0))),(25,C0 Str 1 L2 R),(26,B2 R.length),(27,B2 k),(6,H6 x)] (d7 w' J N hs) (Sees.of lf lo) ?_);have A:=B37 x R k w' J N hs hN B1 ac z;cases T:fJ N x with
    | none =>
     rw[T]at A;have y:Y6 N hs x=none:=by unfold Y6;rw[A5 z,T]
     refine zz 3 ?_;refine S9 (A) Z Z Z ?_;rintro _ _ ⟨rfl,rfl⟩;refine zc 2 (fun c=>?_) fun c=>?_
     ·refine zz 6 ?_;refine E2 (B92 CHunk 2 M3 2 3 Z Z) (zz 1 ?_);exact A8 (rs:=[N5 comb0,D5 false]) (S0 rfl rfl rfl rfl rfl rfl rfl) (C (B y))
     ·cases c
    | some a =>
     rw[T]at A;have y:Y6 N hs x=some (hs++[⟨a,[]⟩]):=by unfold Y6;rw[A5 z,T]
     obtain⟨s1,s2,s3⟩:=D y;refine zz 3 ?_;refine S9 (A) Z Z Z ?_;rintro _ _ ⟨rfl,rfl⟩;refine zc 2 (fun c=>?_) fun c=>?_
     ·cases c
     refine zz 5 ?_;refine⟨(k+1,hs++[⟨a,[]⟩]),⟨E,s3,s2,s1⟩,by dsimp only;omega,?_⟩;dsimp only;rw[ofShutC];exact Sees.of lf lo
   cases K:hs.getLast? with
   | none =>
    have ag:hs=[]:=List.getLast?_eq_none_iff.1 K;subst ag;have y:Y6 N [] x=none:=by unfold Y6;rw[A6 z,A5 rfl]
    have A:=A42 x R k w' J N z;refine E2 (LS Z) (K4 [(4,.s (.one (.ref 730 0))),(2,.s (.one (.ref 2 0))),(25,C0 Str 1 L2 R),(26,B2 R.length),(27,B2 k),(6,H6 x)] (d7 w' J N []) (Sees.of lf lo) (zz 3 ?_));refine S9 (A) Z Z Z ?_;rintro _ _ ⟨rfl,rfl⟩;refine zc 2 (fun c=>?_) fun c=>?_
    ·refine zz 6 ?_;refine E2 (B92 CHunk 2 M3 2 3 Z Z) (zz 1 ?_);exact A8 (rs:=[N5 comb0,D5 false]) (S0 rfl rfl rfl rfl rfl rfl rfl) (C (B y))
    ·cases c
   | some h =>
    have I:hs≠[]:=by intro e;rw[e]at K;cases K
    have h0:0<hs.length:=List.length_pos_iff.2 I;have ab:=uG (List.mem_of_getLast? K);have ak:=cH h.Rows;have af:(h.Rows.map P9).sum<=eO hs:=by
     rw[nZ]at ab;omega
    refine E2 (toOpenC Z K) (K4 [(4,.s (.one (.ref 730 0))),(2,.s (.one (.ref 2 0))),(25,C0 Str 1 L2 R),(26,B2 R.length),(27,B2 k),(6,H6 x)] (d9 w' J N hs h.At h.Rows) (Sees.of lf lo) ?_);by_cases L:x=noNl
    ·subst L
     have A:=A43 R k w' J N hs h.At h.Rows h0 B1 B1 (fun r hr=>by
      have h5:=wF hr;have h6:P9 r=r.Text.length+96:=rfl
      omega)
     cases P:h.Rows.getLast? with
     | none =>
      rw[P]at A;have y:Y6 N hs noNl=none:=by
       unfold Y6;rw[A6 z,A6 I,A5 rfl];unfold DP;rw[K];dsimp only;rw[P]
      refine zz 3 ?_;refine S9 (A) Z Z Z ?_;rintro _ _ ⟨rfl,rfl⟩;refine zc 2 (fun c=>?_) fun c=>?_
      ·refine zz 6 ?_;refine E2 (B92 CHunk 2 M3 2 3 Z Z) (zz 1 ?_);exact A8 (rs:=[N5 comb0,D5 false]) (S0 rfl rfl rfl rfl rfl rfl rfl) (C (B y))
      ·cases c
     | some r =>
      rw[P]at A;have y:Y6 N hs noNl=some (hs.dropLast++[⟨h.At,h.Rows.dropLast++[⟨r.Lost,r.Marks,mY r.Text⟩]⟩]):=by
       unfold Y6;rw[A6 z,A6 I,A5 rfl];unfold DP;rw[K];dsimp only;rw[P]
      obtain⟨s1,s2,s3⟩:=D y;refine zz 3 ?_;refine S9 (A) Z Z Z ?_;rintro _ _ ⟨rfl,rfl⟩;refine zc 2 (fun c=>?_) fun c=>?_
      ·cases c
      refine zz 5 ?_;refine⟨(k+1,hs.dropLast++[⟨h.At,h.Rows.dropLast++[⟨r.Lost,r.Marks,mY r.Text⟩]⟩]),⟨E,s3,s2,s1⟩,by dsimp only;omega,?_⟩;refine Sees.trans ?_ (YX K s6);exact Sees.of lf lo
    ·have A:=A44 x R k w' J N hs h.At h.Rows h0 B1 B1 ac z L;have M:AL.rowAt (x++[10]) N=iX (x++[10]) (N:Int):=by unfold iX;rw[A6 B1,C31]
     cases hr:iX (x++[10]) (N:Int) with
     | none =>
      rw[hr]at A M;have y:Y6 N hs x=none:=by unfold Y6;rw[A6 z,A6 I,A6 L,M]
      refine zz 3 ?_;refine S9 (A) Z Z Z ?_;rintro _ _ ⟨rfl,rfl⟩;refine zc 2 (fun c=>?_) fun c=>?_
      ·refine zz 6 ?_;refine E2 (B92 CHunk 2 M3 2 3 Z Z) (zz 1 ?_);exact A8 (rs:=[N5 comb0,D5 false]) (S0 rfl rfl rfl rfl rfl rfl rfl) (C (B y))
      ·cases c
     | some r =>
      rw[hr]at A M;have y:Y6 N hs x=some (hs.dropLast++[⟨h.At,h.Rows++[r]⟩]):=by unfold Y6;rw[A6 z,A6 I,A6 L,M];dsimp only;unfold NE;rw[K]
      obtain⟨s1,s2,s3⟩:=D y;refine zz 3 ?_;refine S9 (A) Z Z Z ?_;rintro _ _ ⟨rfl,rfl⟩;refine zc 2 (fun c=>?_) fun c=>?_
      ·cases c
      refine zz 5 ?_;refine⟨(k+1,hs.dropLast++[⟨h.At,h.Rows++[r]⟩]),⟨E,s3,s2,s1⟩,by dsimp only;omega,?_⟩;refine Sees.trans ?_ (YX K s6);exact Sees.of lf lo
  ·have ae:k=R.length:=by have:=A1 c;omega
   subst ae;rw[C51 (Nat.le_refl _)]at H;have H:some hs=p9 N [] R:=H;refine zz 2 ?_;refine E2 (LS Z) (E2 (C18 731 M3 Z (fun x _ j _ rd u=>VQ j rd u)) (E2 (Sees.freezeG (k:=731) Z Z) (K4 [(4,.s (.one (.ref 730 0))),(2,.s (.one (.ref 2 0)))] [(730,.box [.p (.v (.string ⟨w'.toArray⟩)),.p (.v (.bool J)),.p (.v (.int .i64 N)),.p (.list CHunk 2 M3 hs)]),(2,X3)] (Sees.of lf lo) (zz 9 ?_))));exact A8 (rs:=[N5 ⟨w',J,N,hs⟩,D5 true]) (S0 rfl rfl rfl rfl rfl rfl rfl) (ad hs H.symm)
theorem B38{s:Str}{l:List Str}(h:cE s=some l):(l.map fW).sum<=420*s.length:=by
 unfold cE at h;split at h
 ·cases h;simp
 ·split at h
  ·have h:(B6 s).map List.dropLast=l:=Option.some.inj h;obtain⟨i,j⟩:=rA s;have c:∀L:List Str,(∀x∈L,x≠[])->((L.map List.dropLast).map fW).sum<=420*L.flatten.length:=by
    intro L;induction L with
    | nil=>intro _;simp
    | cons x r f =>
     intro b;have f:=f (fun y g=>b y (by simp[g]));have d:=List.length_pos_iff.2 (b x s6);simp only[C39,C67,C56,C32];have e:fW x.dropLast=420*(x.dropLast.length+1):=rfl;rw[e,List.length_dropLast];omega
   have hs:=c (B6 s) (fun x d=>((jX x).1 ((cC s).1 x d)).1);rw[h]at hs;omega
  ·cases h
def QB(f:List Str->Option Comb)(s:Str):List PV:=[N5 (kS f s).1,D2 (kS f s).2]
theorem QC(s:Str)(hs:s.length<=600000):FnOk Tryz.prog 9 [E5 s] (fun rs=>rs=QB r5 s):=by
 have d:¬16777216<s.length:=by omega
 have c:=VI s B1;have b:∀{x:Comb×Int},kS r5 s=x->x=(comb0,4)->[N5 comb0,D2 4]=QB r5 s:=by
  intro x u v;unfold QB;rw[u,v]
 refine FnOk.intro Tryz.func9 G6 Z Z Z Z (zz 2 ?_);refine B8 (E6 2 Z) Z ?_;refine zc 9 (fun a=>?_) fun a=>?_
 ·exact absurd (A0 a) B1
 cases f:cE s with
 | none =>
  unfold vJ at c;rw[f]at c;refine zz 4 ?_;refine D3 (c) ?_;refine zc 12 (fun a=>?_) fun a=>?_
  ·refine zz 6 ?_;refine E2 (B92 CHunk 2 M3 2 3 Z Z) (zz 1 ?_);exact A8 (rs:=[N5 comb0,D2 4]) (S0 rfl rfl rfl rfl rfl rfl rfl) (b rfl (by unfold kS;rw[A6 d,f]))
  ·cases a
 | some l =>
  unfold vJ at c;rw[f]at c;obtain⟨B,z2⟩:=A34 f;have C:=B38 f;have e:=A45 l B1 (fun t a=>by have:=z2 t a;omega);cases k:r5 l with
  | none =>
   unfold s8 at e;rw[k]at e;refine zz 4 ?_;refine D3 (c) ?_;refine zc 12 (fun a=>?_) fun a=>?_
   ·cases a
   refine zz 4 ?_;refine D3 (e) (zz 3 ?_);refine B8 (E6 6 Z) Z ?_;refine zc 9 (fun a=>?_) fun a=>?_
   ·refine zz 6 ?_;refine E2 (B92 CHunk 2 M3 2 3 Z Z) (zz 1 ?_);exact A8 (rs:=[N5 comb0,D2 4]) (S0 rfl rfl rfl rfl rfl rfl rfl) (b rfl (by unfold kS;rw[A6 d,f];dsimp only;rw[k]))
   ·cases a
  | some p =>
   unfold s8 at e;rw[k]at e;obtain⟨_,z,o⟩:=A37 k;have A:eO p.Hunks<=268435456:=by omega
   have y:∀h∈p.Hunks,K1 h.Rows:=fun h w=>(o h w).2;have m:=qS p A y;have g:kS r5 s=if J7 p≠0\/P6 p≠s then (comb0,4) else (p,0):=by unfold kS;rw[A6 d,f];dsimp only;rw[k]
   by_cases j:J7 p=0
   ·rw[A5 j]at m;refine zz 4 ?_;refine D3 (c) ?_;refine zc 12 (fun a=>?_) fun a=>?_
    ·cases a
    refine zz 4 ?_;refine D3 (e) (zz 3 ?_);refine B8 (E6 6 Z) Z ?_;refine zc 9 (fun a=>?_) fun a=>?_
    ·cases a
    refine zz 5 ?_;refine D3 (m) (zz 13 ?_);refine C3 Z Z Z Z (fun q=>by rw[q];exact jB Z Z) ?_;refine zz 2 ?_;simp only[or_pick];refine zz 0 ?_;by_cases hb:P6 p=s
    ·rw[A6 (by simp[j,hb])]at g;refine zc 0 (fun a=>?_) fun a=>?_
     ·exfalso;rcases A0 a with h | h
      ·exact h rfl
      ·exact h hb
     refine zz 8 ?_;exact A8 (rs:=[N5 p,D2 0]) (S0 rfl rfl rfl rfl rfl rfl rfl) (by unfold QB;rw[g])
    ·rw[A5 (.inr hb)]at g;refine zc 0 (fun a=>?_) fun a=>?_;rotate_left
     ·exact absurd (.inr hb) (A1 a)
     refine zz 6 ?_;refine E2 (B92 CHunk 2 M3 2 3 Z Z) (zz 1 ?_);exact A8 (rs:=[N5 comb0,D2 4]) (S0 rfl rfl rfl rfl rfl rfl rfl) (b g rfl)
   ·rw[A6 j]at m;rw[A5 (.inl j)]at g;refine zz 4 ?_;refine D3 (c) ?_;refine zc 12 (fun a=>?_) fun a=>?_
    ·cases a
    refine zz 4 ?_;refine D3 (e) (zz 3 ?_);refine B8 (E6 6 Z) Z ?_;refine zc 9 (fun a=>?_) fun a=>?_
    ·cases a
    refine zz 5 ?_;refine D3 (m) (zz 13 ?_);refine C3 Z Z Z Z (fun q=>by rw[q];exact jB Z Z) ?_;refine zz 2 ?_;simp only[or_pick];refine zc 0 (fun a=>?_) fun a=>?_;rotate_left
    ·exact absurd (.inl j) (A1 a)
    refine zz 6 ?_;refine E2 (B92 CHunk 2 M3 2 3 Z Z) (zz 1 ?_);exact A8 (rs:=[N5 comb0,D2 4]) (S0 rfl rfl rfl rfl rfl rfl rfl) (b g rfl)
theorem mI{c:Comb}(a:J7 c=0)(d:(P6 c).length<=600000):FnOk Tryz.prog 9 [E5 (P6 c)] (fun rs=>rs=[N5 c,D2 0]):=by
 have h:=QC (P6 c) d;unfold QB at h;rw[A86 (fun p b=>RX b) a]at h;exact h
def gX(path b:Str)(a:List Str)(ctx:Int)(d:Bool):Comb×Int :=
 if i7 path=false then (comb0,120) else if (E7 b a).2≠0 then (comb0,(E7 b a).2) else
 if (K9 (E7 b a).1 ctx d).2≠0 then (comb0,(K9 (E7 b a).1 ctx d).2) else bR path (E7 b a).1 (K9 (E7 b a).1 ctx d).1 d
theorem QD:∀s∈lineTab,s.count 10=0:=by decide
theorem VR(k:Int):(d6 k).count 10=0:=by
 unfold d6;rw[C33];cases h:lineTab[(X2 k 10).toNat]? with
 | none=>rfl
 | some s=>exact QD s (C53 h)
theorem FV(d:List Int)(a b:Int)(m:Nat):(S4 d a b m).count 10=m:=by
 induction m with
 | zero=>simp[S4]
 | succ m e=>rw[m3,C88,C88,e,VR];rfl
structure Small16 (x:Str) (r:List Str):Prop where
 n:r.length<=32
 hx:x.length<=140
 hr:∀b∈r,b.length<=140
 rows:K1 (E7 x r).1.Rows
 len:(E7 x r).1.Rows.length<=1105
 txt:∀q∈(E7 x r).1.Rows,q.Text.length<=140
theorem textsLen_le{a:List Row}{B:Nat}(h:∀q∈a,q.Text.length<=B):U7 a<=a.length*B/\(a.map P9).sum<=a.length*(B+96)/\∀n,(a.map (rP n)).sum<=a.length*(B+n+29):=by
 unfold U7;induction a with
 | nil=>simp
 | cons x r c =>
  obtain⟨e,i2,i3⟩:=c fun q b=>h q (by simp[b]);have d:=h x s6;simp only[C39,C56,C32,C67,C34,C62,Nat.one_mul];simp only[Nat.mul_add]at i2 i3 ⊢;refine⟨by omega,by unfold P9 at i2 ⊢;omega,fun n=>?_⟩;have:=i3 n;unfold rP at this ⊢;omega
theorem Small16.sums{x:Str}{r:List Str}(h:Small16 x r):U7 (E7 x r).1.Rows<=154700/\((E7 x r).1.Rows.map P9).sum<=260780/\∀n,n<=32->((E7 x r).1.Rows.map (rP n)).sum<=1105*201:=by
 obtain⟨d,e,b⟩:=textsLen_le h.txt;have c:=h.len;refine⟨by omega,by omega,fun n f=>?_⟩;refine Nat.le_trans (b n) ?_;exact Nat.mul_le_mul c B1
theorem cut18_w{path:Str}{t:Table}{sp:List Span}{d:Bool}(h:(bR path t sp d).2=0):i7 path=true/\J2 t=0/\∃hs,bJ t.Parents.toNat t.Rows 0 [] sp=some hs/\J7 ⟨path,d,t.Parents,hs⟩=0/\bR path t sp d=(⟨path,d,t.Parents,hs⟩,0):=by
 unfold bR at h ⊢;split at h
 ·cases h
 ·rename_i c;rw[A6 c];split at h
  ·rename_i a;exact absurd h a
  ·rename_i a;rw[A6 a];refine⟨by simpa using c,by omega,?_⟩;cases e:bJ t.Parents.toNat t.Rows 0 [] sp with
   | none=>rw[e]at h;cases h
   | some hs =>
    rw[e]at h;dsimp only at h ⊢;split at h
    ·rename_i b;exact absurd h b
    ·rename_i b;exact⟨hs,rfl,by omega,by rw[A6 b]⟩
structure GFs (M B:Nat) (l:List File):Prop where
 len:l.length<=4
 all:∀f∈l,f.Path.length<=3/\f.Blob.length<=B/\(B6 f.Blob).length<=M
theorem GFs.mono{M M' B B':Nat}{l:List File}(h:GFs M B l)(c:M<=M')(b:B<=B'):GFs M' B' l:=⟨h.len,fun f a=>by have:=h.all f a;omega⟩
theorem GFs.gf{M B:Nat}{l:List File}(h:GFs M B l):GF B l:=⟨h.len,fun f a=>by have:=h.all f a;omega⟩
structure GGs (M B:Nat) (g:Graph):Prop where
 len:g.length<=16
 pars:∀c∈g,c.Parents.length<=3/\∀p∈c.Parents,0<=p/\p<(g.length:Int)
 files:∀c∈g,GFs M B c.Files
theorem GGs.gg{M B:Nat}{g:Graph}(h:GGs M B g):GG B g:=⟨h.len,h.pars,fun c a=>(h.files c a).gf⟩
theorem GGs.mono{M M' B B':Nat}{g:Graph}(h:GGs M B g)(b:M<=M')(a:B<=B'):GGs M' B' g:=⟨h.len,h.pars,fun c d=>(h.files c d).mono b a⟩
def lT:Nat->Nat
 | 0=>2
 | c+1=>2*lT c
def bTm:Nat->Nat
 | 0=>8
 | c+1=>bTm c+4*lT c
theorem bTm_le(c:Nat)(h:c<=6):2<=lT c/\lT c<=128/\8<=bTm c/\bTm c<=512:=by
 match c,h with
 | 0,_=>decide
 | 1,_=>decide
 | 2,_=>decide
 | 3,_=>decide
 | 4,_=>decide
 | 5,_=>decide
 | 6,_=>decide
theorem QE(a:Str)(b:List Int)(k:Int):(m6 a b k).length<=a.length+4*(B6 a).length:=by
 have c:=jN b k (B6 a) 0 [];rw[V5]at c;unfold m6;simp only[C43]at c;omega
theorem tF(s:Str):(B6 s).length<=s.count 10+1:=by have:=X0 s;split at this<;>omega
theorem xI{s:Str}(h:s=[]\/ended s=true):(B6 s).length=s.count 10:=by
 rw[X0,A6]
 ·omega
 ·rintro⟨b,a⟩;rcases h with h | h
  ·exact b h
  ·rw[h]at a;cases a
theorem HZ{a b:Str}(hb:b≠[])(h:ended b=true):ended (a++b)=true:=by
 obtain⟨c,rfl⟩:=A75.1 h;rw[<-C42];exact iV (a++c)
theorem VS{a b:Str}(hb:b≠[])(h:ended (a++b)=true):ended b=true:=by
 rcases List.eq_nil_or_concat b with rfl | ⟨c,x,rfl⟩
 ·exact absurd rfl hb
 ·simp[ended]at h ⊢;exact h
theorem eF(a:List Int)(k:Int):∀(l:List Str) (i:Nat) (s:Str),(s=[]\/ended s=true)->(∀x∈l,x≠[]/\ended x=true)->Z0 a k i s l=[]\/ended (Z0 a k i s l)=true
 | [],_,_,hs,_=>hs
 | x::r,i,s,hs,hl=>by
  obtain⟨b,c⟩:=hl x s6;have d:∀y∈r,y≠[]/\ended y=true:=fun y e=>hl y (by simp[e]);unfold Z0;split
  ·exact eF a k r _ _ hs d
  split
  ·exact eF a k r _ _ (.inr (HZ b c)) d
  ·exact eF a k r _ _ (.inr (HZ b c)) d
theorem IA:∀(l:List Str),R7 l=true->(∀t∈l,t≠[])->(l.flatten=[]\/ended l.flatten=true)->∀x∈l,ended x=true
 | [],_,_,_,x,hx=>by cases hx
 | [y],_,hn,b,x,hx=>by
  rw[List.mem_singleton.1 hx];have h:=hn y s6;rcases b with b | b
  ·simp at b;exact absurd b h
  ·simpa using b
 | y::z::r,he,hn,b,x,hx=>by
  rw[R7,C30]at he;have g:=hn z s6;have c:(z::r).flatten≠[]:=by simp[g]
  rcases C36.1 hx with rfl | hx
  ·simpa using he.1
  ·refine IA (z::r) he.2 (fun t d=>hn t (by simp only[C36]at d ⊢;exact .inr d)) (.inr ?_) x hx;rcases b with b | b
   ·simp[g]at b
   ·rw[C56]at b;exact VS c b
theorem yW{b:Str}(h:¬(b≠[]/\ended b=false)):∀x∈B6 b,x≠[]/\ended x=true:=by
 obtain⟨d,e⟩:=cC b;have a:∀t∈B6 b,t≠[]:=fun t g=>((jX t).1 (d t g)).1;refine fun x c=>⟨a x c,IA _ e a ?_ x c⟩
 rw[V5];by_cases hb:b=[]
 ·exact .inl hb
 ·refine .inr ?_;cases f:ended b with
  | true=>rfl
  | false=>exact absurd ⟨hb,f⟩ h
theorem LU(d:List Int)(b n c:Int)(v:0<=n):((B6 (fA d b n c)).length:Int)<=n:=by
 have h:=a7 (l9 d b) (n:=n+1) B1;obtain⟨m,u⟩:∃m,m=(X2 (l9 d b) (n+1)).toNat:=⟨_,rfl⟩
 have f:=FV d b c m;unfold fA;rw[<-u];dsimp only;cases m with
 | zero =>
  have e:S4 d b c 0=[]:=rfl;rw[e];split<;>simp[B6,G3]<;>omega
 | succ m =>
  rw[m3]at f ⊢;obtain⟨A,q⟩:∃A,A=S4 d b c m++d6 (X2 (l9 d (b+1+(m:Int))) c):=⟨_,rfl⟩
  rw[<-q]at f ⊢;rw[C88,show List.count (10:UInt8) [10]=1 by decide]at f;have w:=tF A;have j:=xI (s:=A++[10]) (.inr (iV A));rw[C88,show List.count (10:UInt8) [10]=1 by decide]at j;have p:(A++[10]).take ((A++[10]).length-1)=A:=List.take_left' s6;split
  ·rw[p];omega
  ·omega
theorem LV(a:Str)(b:List Int)(k:Int):(B6 (m6 a b k)).length<=2*(B6 a).length:=by
 have d:=iO b k (B6 a) 0 [];have f:=X0 a;have j:=tF (m6 a b k);rw[V5]at d;simp only[List.count_nil]at d;by_cases c:a≠[]/\ended a=false
 ·rw[A5 c]at f;unfold m6 at j ⊢;omega
 ·rw[A6 c]at f;have m:m6 a b k=[]\/ended (m6 a b k)=true:=by
   unfold m6;refine eF b k _ _ _ (.inl Z) ?_;exact yW c
  rw[xI m];unfold m6;omega
theorem BV(m:List Int)(k d:Int)(K:0<=k/\k<=1000000)(C:0<=d/\d<=4):FnOk Tryz.prog 15 [L0 m,D2 k,D2 d] (fun rs=>∃l,rs=[fF l]/\GFs 4 16 l/\GN 64 l):=by
 refine FnOk.intro Tryz.func15 G6 Z Z Z Z (zz 6 ?_);refine A7 (C6 (c:=L2) (ys:=names4) (D1 Z Z Z Z (D1 Z Z Z Z (D1 Z Z Z Z (D1 Z Z Z Z F2)))) Z Z Z) Z (zz 4 ?_);refine B8 (w9 8 _ v6 Z) Z (zz 7 ?_);refine C5 (X:=Nat×List File) (fun x=>([(0,C0 Int 1 E3 m),(1,B2 k),(2,B2 d),(7,C0 Str 1 L2 names4),(8,.s (.one (.buf 8 File 2 v6 x.2))),(9,B2 x.1)],[(8,.spare x.2.length 2 60)])) (fun x=>x.1<=4/\x.2.length<=x.1/\(∀f∈x.2,f.Path.length<=3/\f.Blob.length<=16/\(B6 f.Blob).length<=4)/\(x.2.map (·.Path)).Sublist (names4.take x.1)/\∀f∈x.2,NoDig f.Blob) (fun x=>4-x.1) (0,[]) ⟨Nat.zero_le _,Nat.le_refl _,(fun _ h=>by cases h),List.Sublist.refl [],(fun _ h=>by cases h)⟩ (Sees.of lf lo) ?_;rintro⟨i,y⟩ ⟨J,F,j,q,w⟩;dsimp only at J F j q w ⊢;refine zc 6 (fun D=>?_) fun D=>?_;rotate_left
 ·refine zz 7 ?_;exact A8 (rs:=[fF y]) (F7 rfl rfl rfl) ⟨y,rfl,⟨by omega,j⟩,q.trans (List.take_sublist _ _),fun f v=>Nat.le_trans List.count_le_length (by have:=(j f v).2.1;omega),w⟩
 have z:i<4:=by have C:=A0 D;(try dsimp only at C);omega
 obtain⟨G,A,E⟩:=name4 i z;have B:names4.take (i+1)=names4.take i++[G]:=LN (by rw[<-A,C31]);refine zz 9 ?_;refine D3 (fT m (k+(i:Int)) B1 B1) ?_;refine zc 3 (fun D=>?_) fun D=>?_
 ·have H:=UH m (k+10+20*(i:Int)) d 4 C.1;have I:=LU m (k+10+20*(i:Int)) d 4 C.1;skip;refine zz 4 ?_;refine D7 (A9 Z (.pure _ _ _ _) Z B1 A) Z Z (zz 5 ?_);refine D7 (rV Z Z B1) Z Z (zz 2 ?_);refine D7 (I4 (blob_ok m (k+10+20*(i:Int)) d 4 B1 B1 B1) Z Z) Z Z (D7 (Y9 Z) Z Z (D7 (C6 (c:=v6) (ys:=[⟨G,fA m (k+10+20*(i:Int)) d 4⟩]) (D1 Z Z Z Z F2) Z Z Z) Z Z (KF (R1 Z Z Z (.pure _ _ _ _) b8q Z) Z Z (zz 7 ?_))));refine⟨(i+1,y++[⟨G,fA m (k+10+20*(i:Int)) d 4⟩]),⟨z,by rw[C32,List.length_singleton];omega,fun f v=>?_,by dsimp only;rw[B,C50];exact q.append (List.Sublist.refl _),fun f v=>?_⟩,by dsimp only;omega,(Sees.of lf lo)⟩
  ·rcases C37.1 v with v | v
   ·exact j f v
   ·rw[List.mem_singleton.1 v];exact⟨E,by dsimp only;omega,by dsimp only;omega⟩
  ·rcases C37.1 v with v | v
   ·exact w f v
   ·rw[List.mem_singleton.1 v];exact VC _ _ _ _
 ·refine zz 6 ?_;exact⟨(i+1,y),⟨z,by dsimp only;omega,j,by dsimp only;rw[B];exact q.trans (List.sublist_append_left _ _),w⟩,by dsimp only;omega,(Sees.of lf lo)⟩
theorem QF(l:List File)(j:List Int)(k q:Int)(M B L:Nat)(R:GFs M B l)(K:GN L l)(hL:32<=L)(hB:B<=3000000/\M<=1000000/\4<=2*M/\16<=B+4*M)(U:0<=k/\k<=1000000)(J:0<=q/\q<=4):FnOk Tryz.prog 16 [fF l,L0 j,D2 k,D2 q] (fun rs=>∃F,rs=[fF F]/\GFs (2*M) (B+4*M) F/\GN (2*L+1) F):=by
 have ab:=R.len;refine FnOk.intro Tryz.func16 G6 Z Z Z Z (zz 6 ?_);refine B8 (w9 9 _ v6 Z) Z (zz 6 ?_);refine D3 (fT j (k+3) B1 B1) (D3 (mE (l9 j (k+3)) 4 B1 B1) (zz 2 ?_));obtain⟨m,hm⟩:∃m,m=X2 (l9 j (k+3)) 4:=⟨_,rfl⟩
 rw[<-hm];refine zz 6 ?_;refine C5 (X:=Nat×List File) (fun x=>([(0,C0 File 2 v6 l),(1,C0 Int 1 E3 j),(2,B2 k),(3,B2 q),(9,.s (.one (.buf 9 File 2 v6 x.2))),(10,B2 m),(11,B2 x.1)],[(9,.spare x.2.length 2 60)])) (fun x=>x.1<=l.length/\x.2.length<=x.1/\(∀f∈x.2,f.Path.length<=3/\f.Blob.length<=B+4*M/\(B6 f.Blob).length<=2*M)/\(x.2.map (·.Path)).Sublist ((l.take x.1).map (·.Path))/\(∀f∈x.2,f.Blob.count 10<=2*L+1)/\∀f∈x.2,NoDig f.Blob) (fun x=>l.length-x.1) (0,[]) ⟨Nat.zero_le _,Nat.le_refl _,(fun _ h=>by cases h),List.Sublist.refl [],(fun _ h=>by cases h),(fun _ h=>by cases h)⟩ (Sees.of lf lo) ?_;rintro⟨i,C⟩ ⟨hi,Q,v,w,z,A⟩;dsimp only at hi Q v w z A ⊢;refine zc 8 (fun D=>?_) fun D=>?_;rotate_left
 ·refine zc 8 (fun D=>?_) fun D=>?_
  ·refine zz 5 ?_;refine x7 (BV j k q U J) Z Z Z ?_;rintro _ ⟨F,rfl,N,O⟩;refine zz 2 ?_;refine zz 1 ?_;exact A8 (rs:=[fF F]) (F7 rfl rfl rfl) ⟨F,rfl,N.mono B1 B1,O.mono B1⟩
  ·refine zz 7 ?_;exact A8 (rs:=[fF C]) (F7 rfl rfl rfl) ⟨C,rfl,⟨by omega,v⟩,(w.trans ((List.take_sublist _ _).map _)).trans K.sub,z,A⟩
 have y:i<l.length:=by have J:=A0 D;(try dsimp only at J);omega
 obtain⟨f,I⟩:∃f,f=l[i]:=⟨_,rfl⟩
 have T:l[i]?=some f:=by rw[I];simp[y]
 obtain⟨H,V,Y⟩:=R.all f (by rw[I];exact C35 y);have ad:=QE f.Blob j (k+7);have ae:=LV f.Blob j (k+7);have ac:=VA f.Blob j (k+7);have W:=K.cnt f (by rw[I];exact C35 y);have G:=K.dig f (by rw[I];exact C35 y);have E:(l.take (i+1)).map (·.Path)=(l.take i).map (·.Path)++[f.Path]:=by rw[LN T,C50];rfl
 refine zz 7 ?_;refine A7 (A9 Z (.pure _ _ _ _) Z B1 T) Z (zz 1 ?_);refine B8 (E6 12 Z) Z ?_;refine zc 9 (fun D=>?_) fun D=>?_
 ·refine zz 7 ?_;refine D3 (near_ok f.Blob j (k+7) B1 B1) (zz 8 ?_);refine D3 (fT j (k+5) B1 B1) ?_;refine zc 3 (fun D=>?_) fun D=>?_
  ·refine zz 6 ?_;exact⟨(i+1,C),⟨y,by dsimp only;omega,v,by dsimp only;rw[E];exact w.trans (List.sublist_append_left _ _),z,A⟩,by dsimp only;omega,(Sees.of lf lo)⟩
  ·refine zz 4 ?_;refine A7 (C6 (c:=v6) (ys:=[⟨f.Path,m6 f.Blob j (k+7)⟩]) (D1 Z Z Z Z F2) Z Z Z) Z (zz 8 ?_);refine⟨(i+1,C++[⟨f.Path,m6 f.Blob j (k+7)⟩]),⟨y,by rw[C32,List.length_singleton];omega,fun x d=>?_,by dsimp only;rw[E,C50];exact w.append (List.Sublist.refl _),fun x d=>?_,fun x d=>?_⟩,by dsimp only;omega,(Sees.of lf lo)⟩
   ·rcases C37.1 d with d | d
    ·exact v x d
    ·rw[List.mem_singleton.1 d];exact⟨H,by dsimp only;omega,by dsimp only;omega⟩
   ·rcases C37.1 d with d | d
    ·exact z x d
    ·rw[List.mem_singleton.1 d];dsimp only;omega
   ·rcases C37.1 d with d | d
    ·exact A x d
    ·rw[List.mem_singleton.1 d];exact VB G j (k+7)
 ·refine zz 4 ?_;refine A7 (C6 (c:=v6) (ys:=[f]) (D1 Z Z Z Z F2) Z Z Z) Z (zz 8 ?_);refine⟨(i+1,C++[f]),⟨y,by rw[C32,List.length_singleton];omega,fun x d=>?_,by dsimp only;rw[E,C50];exact w.append (List.Sublist.refl _),fun x d=>?_,fun x d=>?_⟩,by dsimp only;omega,(Sees.of lf lo)⟩
  ·rcases C37.1 d with d | d
   ·exact v x d
   ·rw[List.mem_singleton.1 d];exact⟨H,by omega,by omega⟩
  ·rcases C37.1 d with d | d
   ·exact z x d
   ·rw[List.mem_singleton.1 d];omega
  ·rcases C37.1 d with d | d
   ·exact A x d
   ·rw[List.mem_singleton.1 d];exact G
theorem QG(g:Graph)(V:List Int)(M B L:Nat)(T:GGs M B g)(Q:GU L g)(hB:B<=1048576)(hL:L<=2111):FnOk Tryz.prog 17 [G9 g,L0 V] (fun rs=>∃Y,rs=[G9 Y]/\GGs M B Y/\GV Y):=by
 have ah:=T.len;refine FnOk.intro Tryz.func17 G6 Z Z Z Z (zz 8 ?_);refine D3 (fT V 3 B1 B1) ?_;refine zc 3 (fun J=>?_) fun J=>?_
 ·refine zz 6 ?_;exact A8 (rs:=[G9 g]) (F7 rfl rfl rfl) ⟨g,rfl,T,GU.valid T.gg hB hL (.inl Q.up) Q.nice Q.tree⟩
 refine zz 10 ?_;refine B8 (j5 760 Commit H8 ⟨[],0,[]⟩ Z Z B1 B1 (fun _=>by first | exact⟨⟨rfl,rfl⟩,trivial⟩ | exact⟨F0 _ _ _,trivial⟩ | exact⟨F0 _ _ _,⟨rfl,rfl⟩,F0 _ _ _,trivial⟩ | exact⟨⟨rfl,rfl⟩,⟨rfl,rfl⟩,trivial⟩) YR) Z ?_;refine zz 2 ?_;rw[C31];refine zz 6 ?_
 refine C5 (X:=Nat×List Commit) (fun x=>([(0,C0 Commit 3 H8 g),(5,B2 g.length),(6,.s (.one (.mut 760))),(7,B2 x.1)],[(760,.arr Commit 3 H8 x.2)])) (fun x=>x.1<=g.length/\x.2.length=g.length/\(∀y∈x.2,y.Parents.length<=3/\∀p∈y.Parents,0<=p/\p<(g.length:Int))/\(∀y∈x.2,GFs M B y.Files)/\(∀y∈x.2,(y.Parents.Nodup/\0<=y.Date/\y.Date<=5)/\GN L y.Files)/\∀j p:Nat,(p:Int)∈D8 x.2 j->j<p) (fun x=>g.length-x.1) (0,List.replicate g.length ⟨[],0,[]⟩) ⟨Nat.zero_le _,C74,fun y w=>by rw[(List.mem_replicate.1 w).2];exact⟨by simp,fun p hp=>by cases hp⟩,fun y w=>by rw[(List.mem_replicate.1 w).2];exact⟨by simp,fun f S=>by cases S⟩,fun y w=>by rw[(List.mem_replicate.1 w).2];exact⟨⟨List.nodup_nil,by decide,by decide⟩,List.nil_sublist _,(fun f S=>by cases S),fun f S=>by cases S⟩,fun j p h=>by
  unfold D8 at h;rw[List.getElem?_replicate]at h
  split at h<;>cases h⟩ (Sees.of lf lo) ?_
 rintro⟨c,o⟩ ⟨hc,F,H,E,G,O⟩;dsimp only at hc F H E G O ⊢;refine zc 7 (fun J=>?_) fun J=>?_;rotate_left
 ·refine zz 2 ?_;refine E2 (Sees.freeze (k:=760) Z) (zz 5 ?_);exact A8 (rs:=[G9 o]) (F7 rfl rfl rfl) ⟨o,rfl,⟨by omega,by rw[F];exact H,E⟩,GU.valid (B:=B) (GGs.gg (M:=M) ⟨by omega,by rw[F];exact H,E⟩) hB hL (.inr O) (fun y w=>(G y w).1) fun y w=>(G y w).2⟩
 have D:c<g.length:=by have z:=A0 J;(try dsimp only at z);omega
 obtain⟨d,K⟩:∃d,d=g[c]:=⟨_,rfl⟩
 have hv:g[c]?=some d:=by rw[K];simp[D]
 have W:d∈g:=by rw[K];exact C35 D
 obtain⟨ai,hpr⟩:=T.pars d W;have ab:=T.files d W;have R:=Q.nice d W;have ac:=Q.tree d W;have ad:∀q∈d.Parents,q<(c:Int):=fun q C=>by
  have z:=Q.up c q.toNat (by rw[dH D,<-K,Int.toNat_of_nonneg (hpr q C).1];exact C)
  have:=(hpr q C).1;omega
 refine zz 7 ?_;refine A7 (A9 Z (.pure _ _ _ _) Z B1 hv) Z (zz 1 ?_);refine B8 (E6 8 Z) Z (zz 9 ?_);refine E2 (B95 753 Int 1 E3 3 (kb:=8) (o:=0) Z Z Z) (zz 4 ?_);refine C5 (X:=Nat×List Int) (fun x=>([(0,C0 Commit 3 H8 g),(5,B2 g.length),(6,.s (.one (.mut 760))),(7,B2 c),(8,.s (.one (.ref 8 0))),(9,B2 x.1)],[(8,.box [.buf 753 Int 1 E3 x.2,.p (.v (.int .i64 d.Date)),.p (.list File 2 v6 d.Files)]),(753,.spare x.2.length 1 3),(760,.arr Commit 3 H8 o)])) (fun x=>x.1<=d.Parents.length/\x.2=(d.Parents.take x.1).map fun q=>(g.length:Int)-1-q) (fun x=>d.Parents.length-x.1) (0,[]) ⟨Nat.zero_le _,rfl⟩ (Sees.of lf lo) ?_;rintro⟨p,ps⟩ ⟨hp,I⟩;dsimp only at hp I ⊢;have aj:ps.length=p:=by rw[I,C55,C41];omega
 refine zz 6 ?_;refine A7 (A9 Z (.pure _ _ _ _) Z B1 hv) Z ?_;refine zc 5 (fun J=>?_) fun J=>?_
 ·have A:p<d.Parents.length:=by have z:=A0 J;(try dsimp only at z);omega
  obtain⟨q,C⟩:∃q,q=d.Parents[p]:=⟨_,rfl⟩
  have U:d.Parents[p]?=some q:=by rw[C];simp[A]
  have ak:=hpr q (by rw[C];exact C35 A);refine zz 10 ?_;refine D7 (A9 Z (.pure _ _ _ _) Z B1 hv) Z Z (zz 3 ?_);refine D7 (A9 Z (.pure _ _ _ _) Z B1 U) Z Z (zz 2 ?_);refine D7 (C6 (c:=E3) (ys:=[(g.length:Int)-1-q]) (D1 Z Z Z Z F2) Z Z Z) Z Z (KF (R1 Z Z Z (.pure _ _ _ _) b8q Z) Z Z (zz 8 ?_));refine⟨(p+1,ps++[(g.length:Int)-1-q]),⟨A,by dsimp only;rw[LN U,C50,<-I];rfl⟩,by dsimp only;omega,(Sees.of lf lo)⟩
 have ag:¬(p:Int)<d.Parents.length:=A1 J;have P:ps=d.Parents.map fun q=>(g.length:Int)-1-q:=by rw[I,C65 B1]
 have ae:∀x∈ps,0<=x/\x<(g.length:Int):=fun x hx=>by
  rw[P]at hx;obtain⟨q,C,rfl⟩:=C54.1 hx;have:=hpr q C;omega
 have hi:0<=(g.length:Int)-1-c/\(g.length:Int)-1-c<o.length:=by omega
 have af:o[((g.length:Int)-1-c).toNat]?=some o[((g.length:Int)-1-c).toNat]:=C29 B1;refine zz 8 ?_;refine A7 (E0 Z Z Z B1 B1) Z (O2 (sB (y:=⟨ps,d.Date,d.Files⟩) TySz.out Z Z af Z Z Z Z (fun _ _ us h=>by first | exact eS h | (match us,h with | [_,_,_],h=>exact⟨h.1.2,h.2.1,h.2.2.1,trivial⟩)) (by intro j z h2;rcases j with _ | _ | _ | j<;>first | rfl | omega)) ?_);refine zz 6 ?_;refine⟨(c+1,o.set ((g.length:Int)-1-c).toNat ⟨ps,d.Date,d.Files⟩),⟨D,by dsimp only;rw[C73];exact F,fun y w=>?_,fun y w=>?_,fun y w=>?_,fun j p hj=>?_⟩,by dsimp only;omega,(Sees.of lf lo)⟩
 ·rcases List.mem_or_eq_of_mem_set w with w | rfl
  ·exact H y w
  ·exact⟨by dsimp only;omega,ae⟩
 ·rcases List.mem_or_eq_of_mem_set w with w | rfl
  ·exact E y w
  ·exact ab
 ·rcases List.mem_or_eq_of_mem_set w with w | rfl
  ·exact G y w
  ·exact⟨⟨by rw[P];exact VE _ R.1,R.2⟩,ac⟩
 ·rcases VD j hj with ⟨e,z⟩ | z
  ·dsimp only at z;rw[P]at z;obtain⟨q,C,e2⟩:=C54.1 z;have:=ad q C;omega
  ·exact O j p z
theorem VT(k:List Int)(n w:Int)(hn:0<=n/\n<=6)(hl:0<=w/\w<=4):FnOk Tryz.prog 5 [L0 k,D2 n,D2 w] (fun rs=>∃g,rs=[G9 g]/\GGs 128 512 g/\GV g):=by
 have au:=a7 (l9 k 0) (n:=n+1) B1;obtain⟨m,hm⟩:∃m:Nat,X2 (l9 k 0) (n+1)=(m:Int):=⟨(X2 (l9 k 0) (n+1)).toNat,by omega⟩
 have ar:m<=6:=by omega
 refine FnOk.intro Tryz.func5 G6 Z Z Z Z (zz 7 ?_);refine D3 (fT k 0 B1 B1) (zz 2 ?_);refine D3 (mE (l9 k 0) (n+1) B1 B1) (zz 2 ?_);rw[hm];refine zz 2 ?_;refine B8 (TV 7 (c:=H8) (ys:=([]:List Commit)) F2 Z Z Z YR) Z (zz 8 ?_);refine C5 (X:=Nat×List Commit) (fun x=>([(0,C0 Int 1 E3 k),(1,B2 m),(2,B2 w),(7,.s (.one (.buf 7 Commit 3 H8 x.2))),(8,B2 x.1)],[(7,.spare x.2.length 3 34)])) (fun x=>x.1<=m/\x.2.length=x.1/\(∀y∈x.2,y.Parents.length<=3/\∀p∈y.Parents,0<=p/\p<(x.1:Int))/\(∀y∈x.2,GFs (lT x.1) (bTm x.1) y.Files)/\GU (yV x.1) x.2) (fun x=>m-x.1) (0,[]) ⟨Nat.zero_le _,rfl,(fun _ h=>by cases h),(fun _ h=>by cases h),(fun _ _ h=>by cases h),(fun _ h=>by cases h),(fun _ h=>by cases h)⟩ (Sees.of lf lo) ?_;rintro⟨c,E⟩ ⟨hc,Q,I,H,D⟩;dsimp only at hc Q I H D ⊢;obtain⟨⟨ad,aq⟩,ae⟩:=bndG_le c B1;obtain⟨aw,ax,ay,az⟩:=bTm_le c B1;refine zc 7 (fun B=>?_) fun B=>?_;rotate_left
 ·refine zz 5 ?_;refine x7 (QG E k (lT c) (bTm c) (yV c) ⟨by omega,by rw[Q];exact I,H⟩ D B1 ae) Z Z Z ?_;rintro _ ⟨g',rfl,ak,ao⟩;refine zz 2 ?_;refine zz 1 ?_;exact A8 (rs:=[G9 g']) (F7 rfl rfl rfl) ⟨g',rfl,GGs.mono ak B1 B1,ao⟩
 have al:c<m:=by have J:=A0 B;(try dsimp only at J);omega
 refine zz 8 ?_;refine D3 (fT k (1000+(c:Int)) B1 B1) (D3 (mE (l9 k (1000+(c:Int))) 5 B1 B1) (zz 1 ?_));refine B8 (E6 9 Z) Z (zz 2 ?_);have P:=a7 (l9 k (1000+(c:Int))) (n:=5) B1;obtain⟨d,hd⟩:∃d,d=X2 (l9 k (1000+(c:Int))) 5:=⟨_,rfl⟩
 rw[<-hd]at P ⊢;refine zz 2 ?_;refine E2 (B95 753 Int 1 E3 3 (kb:=9) (o:=0) Z Z Z) (zz 4 ?_);refine C5 (X:=Nat×List Int) (fun x=>([(0,C0 Int 1 E3 k),(1,B2 m),(2,B2 w),(7,.s (.one (.buf 7 Commit 3 H8 E))),(8,B2 c),(9,.s (.one (.ref 9 0))),(10,B2 x.1)],[(7,.spare E.length 3 34),(9,.box [.buf 753 Int 1 E3 x.2,.p (.v (.int .i64 d)),.p (.v (.slice none 0 0))]),(753,.spare x.2.length 1 3)])) (fun x=>x.1<=c/\x.2.length<=3/\(∀q∈x.2,0<=q/\q<(x.1:Int))/\x.2.Nodup) (fun x=>c-x.1) (0,[]) ⟨Nat.zero_le _,by simp,(fun _ h=>by cases h),List.nodup_nil⟩ (Sees.of lf lo) ?_;rintro⟨p,ps⟩ ⟨hp,R,F,hpn⟩;dsimp only at hp R F hpn ⊢;refine zc 7 (fun B=>?_) fun B=>?_
 ·have L:p<c:=by have J:=A0 B;(try dsimp only at J);omega
  refine zz 11 ?_;refine D3 (fT k (1100+40*(c:Int)+(p:Int)) B1 B1) (zz 5 ?_);refine C3 Z Z Z Z (fun A=>by rw[A];exact y9 Z (.buf _ _ _ _ _)) ?_;refine zc 3 (fun B=>?_) fun B=>?_
  ·have h2:=(A0 (and_pick.symm.trans B)).2;skip;refine zz 4 ?_;refine A7 (C6 (c:=E3) (ys:=[(p:Int)]) (D1 Z Z Z Z F2) Z Z Z) Z (zz 9 ?_);refine⟨(p+1,ps++[(p:Int)]),⟨L,by rw[C32,List.length_singleton];omega,fun x U=>?_,?_⟩,by dsimp only;omega,(Sees.of lf lo)⟩
   ·rcases C37.1 U with U | U
    ·have:=F x U;dsimp only;omega
    ·rw[List.mem_singleton.1 U];dsimp only;omega
   ·dsimp only;refine List.nodup_append.2 ⟨hpn,by simp,fun a ha b hb e=>?_⟩;have:=F a ha;rw[e,List.mem_singleton.1 hb]at this;omega
  ·refine zz 6 ?_;exact⟨(p+1,ps),⟨L,R,fun x U=>by have:=F x U;dsimp only;omega,hpn⟩,by dsimp only;omega,(Sees.of lf lo)⟩
 refine zz 15 ?_;refine C3 Z Z Z Z (fun A=>by have C:=A;(try simp at C);rw[A];exact y8 Z Z B1) ?_;refine C3 Z Z Z Z (fun A=>by have C:=A;(try simp at C);rw[A];exact I4 (fT k (1500+(c:Int)) B1 B1) Z Z) ?_;refine C3 Z Z Z Z (fun A=>by have C:=A;(try simp at C);rw[A];exact YC Z Z B1) ?_;refine zz 3 ?_;refine BC (X:=List Int) (fun G=>([(0,C0 Int 1 E3 k),(1,B2 m),(2,B2 w),(7,.s (.one (.buf 7 Commit 3 H8 E))),(8,B2 c),(9,.s (.one (.ref 9 0)))],[(7,.spare E.length 3 34),(9,.box [.p (.list Int 1 E3 G),.p (.v (.int .i64 d)),.p (.v (.slice none 0 0))])])) (fun G=>G.length<=3/\(∀q∈G,0<=q/\q<(c:Int))/\G.Nodup) ?_ ?_
 ·refine zc 0 (fun B=>?_) fun B=>?_
  ·rw[xS,xS,C30,C30]at B;have h2:=A0 B.1.2;skip;refine zz 3 ?_;refine A7 (C6 (c:=E3) (ys:=[(c:Int)-1]) (D1 Z Z Z Z F2) Z Z Z) Z (zz 3 ?_);exact⟨[(c:Int)-1],⟨by simp,fun q C=>by rw[List.mem_singleton.1 C];omega,by simp⟩,Sees.trans (C08 9 0 rfl rfl rfl) (Sees.of lf lo)⟩
  ·refine zz 1 ?_;exact⟨ps,⟨R,fun q C=>by have:=F q C;omega,hpn⟩,Sees.trans (C08 9 0 rfl rfl rfl) (Sees.of lf lo)⟩
 rintro G ⟨am,T,an⟩;dsimp only;refine zz 7 ?_;refine x7 (BV k (2000+200*(c:Int)) w B1 hl) Z Z Z ?_;rintro _ ⟨fl,rfl,ah,ai⟩;refine zz 3 ?_;refine zz 10 ?_;refine C3 Z Z Z Z (fun A=>by have C:=A;(try simp at C);rw[A];exact y8 Z Z B1) ?_;refine C3 Z Z Z Z (fun A=>by have C:=A;(try simp at C);rw[A];exact I4 (fT k (1600+(c:Int)) B1 B1) Z Z) ?_;refine C3 Z Z Z Z (fun A=>by have C:=A;(try simp at C);rw[A];exact YC Z Z B1) ?_;refine zz 3 ?_;refine BC (X:=List File) (fun M=>([(0,C0 Int 1 E3 k),(1,B2 m),(2,B2 w),(7,.s (.one (.buf 7 Commit 3 H8 E))),(8,B2 c),(9,.s (.one (.ref 9 0)))],[(7,.spare E.length 3 34),(9,.box [.p (.list Int 1 E3 G),.p (.v (.int .i64 d)),.p (.list File 2 v6 M)])])) (fun M=>GFs (lT (c+1)) (bTm (c+1)) M/\GN (yV (c+1)) M) ?_ ?_
 ·refine zc 0 (fun B=>?_) fun B=>?_
  ·rw[xS,C30]at B;have h2:=A0 B.1;obtain⟨q,qr,rfl⟩:∃q qr,G=q::qr:=by
    cases G with
    | nil=>simp at h2
    | cons q qr=>exact⟨q,qr,rfl⟩
   have av:=T q s6;have S:q.toNat<E.length:=by omega
   obtain⟨V,O⟩:∃V,V=E[q.toNat]:=⟨_,rfl⟩
   have ap:E[q.toNat]?=some V:=by rw[O];simp[S]
   have af:=H V (by rw[O];exact C35 S);have ag:=D.tree V (by rw[O];exact C35 S);skip;refine zz 4 ?_;refine A7 (A9 Z (.pure _ _ _ _) Z B1 (show (q::qr)[Int.toNat 0]?=some q from Z)) Z (zz 1 ?_);refine A7 (A9 Z (.buf _ _ _ _ _) Z B1 ap) Z (zz 7 ?_);refine x7 (QF V.Files k (2000+200*(c:Int)) w (lT c) (bTm c) (yV c) af ag ad B1 B1 hl) Z Z Z ?_;rintro _ ⟨ac,rfl,W,Y⟩;refine zz 3 ?_;refine zz 0 ?_;exact⟨ac,⟨W,Y⟩,(Sees.of lf lo)⟩
  ·refine zz 1 ?_;exact⟨fl,⟨ah.mono (show 4<=lT (c+1) by rw[lT];omega) (show 16<=bTm (c+1) by rw[bTm];omega),ai.mono (show 64<=yV (c+1) by rw[yV];omega)⟩,(Sees.of lf lo)⟩
 rintro M ⟨aj,ab⟩;dsimp only;skip;refine zz 3 ?_;refine A7 (C6 (c:=H8) (ys:=[⟨G,d,M⟩]) (D1 Z Z Z Z F2) Z Z Z) Z (zz 8 ?_);refine⟨(c+1,E++[⟨G,d,M⟩]),⟨al,by dsimp only;rw[C32,List.length_singleton,Q],fun y z=>?_,fun y z=>?_,fun j p K=>?_,fun y z=>?_,fun y z=>?_⟩,by dsimp only;omega,(Sees.of lf lo)⟩
 ·rcases C37.1 z with z | z
  ·exact⟨(I y z).1,fun p hp=>by have:=(I y z).2 p hp;dsimp only;omega⟩
  ·rw[List.mem_singleton.1 z];exact⟨am,fun p hp=>by have:=T p hp;dsimp only;omega⟩
 ·rcases C37.1 z with z | z
  ·exact (H y z).mono (show lT c<=lT (c+1) by rw[lT];omega) (show bTm c<=bTm (c+1) by rw[bTm];omega)
  ·rw[List.mem_singleton.1 z];exact aj
 ·dsimp only at K;unfold D8 at K;rcases Nat.lt_trichotomy j E.length with J | J | J
  ·rw[C46 J]at K;exact D.up j p K
  ·subst J;rw[List.getElem?_concat_length]at K;have:=T p K;omega
  ·rw[C49 (by rw[C32,List.length_singleton];omega)]at K;cases K
 ·rcases C37.1 z with z | z
  ·exact D.nice y z
  ·rw[List.mem_singleton.1 z];exact⟨an,P.1,Int.le_of_lt P.2⟩
 ·rcases C37.1 z with z | z
  ·exact (D.tree y z).mono (show yV c<=yV (c+1) by rw[yV];omega)
  ·rw[List.mem_singleton.1 z];exact ab
theorem QH(l:List Merged)(A:l.length<=536870912):FnOk Tryz.prog 336 [pMerged l] (fun z=>z=[L0 (I2 l)]):=by
 refine FnOk.intro Tryz.func336 G6 Z Z Z Z (zz 6 ?_);refine B8 (w9 756 _ E3 Z) Z (zz 9 ?_);refine C5 (X:=Nat) (fun i=>([(3,.s (.one (.buf 756 Int 1 E3 (I2 (l.take i))))),(6,C0 Merged 2 mergedC l),(7,B2 l.length),(8,B2 i)],[(756,.spare (I2 (l.take i)).length 1 3)])) (fun i=>i<=l.length) (fun i=>l.length-i) 0 (Nat.zero_le _) (Sees.of lf lo) ?_;intro i x;dsimp only at x ⊢;have q:(I2 (l.take i)).length=i:=by simp[I2];omega
 refine zc 5 (fun v=>?_) fun v=>?_
 ·have d:i<l.length:=by have:=A0 v;omega
  have w:l[i]?=some l[i]:=by simp[d]
  have j:I2 (l.take (i+1))=I2 (l.take i)++[l[i].Line]:=by unfold I2;rw[C48 d];simp only[C50,C39,C77]
  obtain⟨m,y⟩:∃m,m=l[i]:=⟨_,rfl⟩
  rw[<-y]at w j;refine zz 5 ?_;refine A7 (A9 Z (.pure _ _ _ _) Z B1 w) Z (zz 1 ?_);refine B8 (E6 757 Z) Z (zz 6 ?_);refine A7 (C6 (c:=E3) (ys:=[m.Line]) (D1 Z Z Z Z F2) Z Z Z) Z (B8 (R1 Z Z Z (.pure _ _ _ _) (by (rw[q];simp only[C34,C43];omega)) Z) Z ?_);refine zz 6 ?_;refine⟨i+1,by omega,by omega,?_⟩;rw[j];exact Sees.of lf lo
 ·have k:i=l.length:=by have:=A1 v;omega
  rw[k,C44];refine zz 7 ?_;exact A8 (F7 rfl rfl rfl) rfl
theorem VU(l:List Merged)(b:Int){a t:Nat}(h:a+t<l.length):w7 l b a (a+(t+1))=w7 l b a (a+t)++[⟨l[a+t].Line,L1 l[a+t].Parents b⟩]:=by
 rw[yM l b (show a<=a+t by omega) (show a+t<=a+(t+1) by omega),show a+(t+1)=a+t+1 by omega,wK l b h,C29 h];rfl
theorem tG(l:List Merged)(c:Int)(a b:Nat):(w7 l c a b).length<=b-a:=by unfold w7;rw[C55,C41];omega
abbrev aV(i:Int):Ob:=.box [.p (.v (.int .i64 i))]
abbrev qT(i:Int):Ob:=.box [.p (.v (.int .u32 i))]
abbrev VV(l:List Merged):Ob:=.box [.p (.list Merged 2 mergedC l)]
theorem xJ{gf:Fr}{ob:Obs}(l j:List Merged)(d:Int)(a e:Nat)(M:e<=l.length)(ha:a<=e)(N:l.length<=536870912)(O:j.length<=268435456)(H:l.length<=268435456)
  (y:B4 ob 11=some (aV a)) (w:B4 ob 10=some (.box [.buf 20 Merged 2 mergedC j])) (F:B4 ob 3=some (VV l)) (G:B4 ob 5=some (qT d)) (z:B4 ob 20=some (.spare j.length 2 419)) :
  AL.Met Tryz.prog 337 [.one (.p (.v (.int .i64 e))),.one (.ref 11 0),.one (.ref 10 0),.one (.ref 3 0),.one (.ref 5 0)] gf ob [20]
   (fun K ob'=>K=[]/\ob'=(10,.box [.buf 20 Merged 2 mergedC (j++w7 l d a e)])::(11,aV e)::(3,VV l)::(5,qT d)::(20,.spare (j++w7 l d a e).length 2 419)::Obs.forget 20 ob):=by
 refine AL.Met.introH Tryz.func337 G6 rfl rfl rfl (fun D=>?_);refine k3 ?_;refine C5 (X:=Nat) (fun t=>([(0,B2 e),(1,.s (.one (.ref 11 0))),(2,.s (.one (.ref 10 0))),(3,.s (.one (.ref 3 0))),(4,.s (.one (.ref 5 0)))]++Fr.forget 20 gf,(10,.box [.buf 20 Merged 2 mergedC (j++w7 l d a (a+t))])::(11,aV ((a+t:Nat):Int))::(3,VV l)::(5,qT d)::(20,.spare (j++w7 l d a (a+t)).length 2 419)::Obs.forget 20 ob)) (fun t=>a+t<=e) (fun t=>e-(a+t)) 0 B1 ?_ ?_
 ·rw[Nat.add_zero,wJ,C60];exact C22 20 (l:=[(0,B2 e),(1,.s (.one (.ref 11 0))),(2,.s (.one (.ref 10 0))),(3,.s (.one (.ref 3 0))),(4,.s (.one (.ref 5 0)))]) (L:=[(10,_),(11,_),(3,_),(5,_),(20,_)]) lf D rT ⟨w,y,F,G,z,trivial⟩
 intro t A;dsimp only at A ⊢;have J:=tG l d a (a+t);refine zc 7 (fun q=>?_) fun q=>?_
 ·have C:a+t<l.length:=by have:=A0 q;omega
  have B:l[a+t]?=some l[a+t]:=by simp[C]
  have k:=VU l d C;obtain⟨m,I⟩:∃m,m=l[a+t]:=⟨_,rfl⟩
  rw[<-I]at B k;refine zz 7 ?_;refine D7 (A9 Z (.pure _ _ _ _) Z B1 B) Z Z (zz 4 ?_);refine D7 (A9 Z (.pure _ _ _ _) Z B1 B) Z Z (zz 3 ?_);refine D7 (KA Z Z Z (fun _=>rfl)) Z Z (D7 (Y9 Z) Z Z (D7 (C6 (c:=mergedC) (ys:=[⟨m.Line,L1 m.Parents d⟩]) (D1 Z Z Z Z F2) Z Z Z) Z Z (KF (R1 Z Z Z (.pure _ _ _ _) b1w Z) Z Z (zz 7 ?_))));refine⟨t+1,by have:=A0 q;omega,by have:=A0 q;omega,?_⟩;rw[k,<-C42,show ((a+(t+1):Nat):Int)=((a+t:Nat):Int)+1 by omega];exact B91 lf (Y2 D) (by repeat (first | exact bX | refine tail_drop rfl ?_ | refine tail_cons rfl ?_ | refine jG _ ?_)) (r9 (L:=[(10,_),(11,_),(3,_),(5,_),(20,_)]) ⟨rfl,rfl,rfl,rfl,rfl,trivial⟩ (by repeat (first | exact mA | refine sS rfl ?_ | refine obs_fgt _ ?_)))
 ·have E:a+t=e:=by have:=A1 q;omega
  rw[E];refine zz 1 ?_;exact AI (rets0 rfl) cQ (fun _ _ h=>h) ⟨rfl,rfl⟩
def vM(l:List Merged)(a:List Int)(b:Int):List Merged:=m9 l a b 0 0 (H5 0 0 (I2 l) a)
theorem A46(b:List Int)(c:Int){a t:Nat}(h:a+t<b.length):uK b c a (t+1)=uK b c a t++[⟨b[a+t],c⟩]:=by
 unfold uK;rw[CF b a t h,C50];rfl
theorem xK(b:List Int)(c:Int)(a n:Nat):(uK b c a n).length<=n:=by unfold uK;rw[C55,C41];omega
theorem walk_sc(l:List Merged)(a:List Int)(c:l.length<=4096)(d:a.length<=4096):ScOk 0 0 (Q0 (I2 l) a) l.length a.length:=by
 have b:=Z2 (I2 l) a 0 0;rw[Int.zero_add,Int.zero_add]at b;have h:=oC (m:=(I2 l).length) (n:=a.length) ⟨by omega,by simp[I2];omega⟩ ⟨by omega,by omega⟩ (H5 0 0 (I2 l) a) 0 0 0 0 0 b B1 B1 B1 B1 B1;have:=gC _ _ _ _ _ _ h;unfold Q0 jR
 rwa[show (I2 l).length=l.length by simp[I2]]at this ⊢
theorem A47(l:List Merged)(d:List Int)(m:Int)(hl:l.length<=4096)(hn:d.length<=4096) :
  FnOk Tryz.prog 303 [pMerged l,L0 d,.one (.v (.int .u32 m))] (fun rs=>rs=[pMerged (vM l d m),D2 0]):=by
 have ao:(I2 l).length=l.length:=by simp[I2]
 have U:=walk_sc l d hl hn;have K:=B76 l d m;obtain⟨W,hW⟩:∃W,W=vM l d m:=⟨_,rfl⟩
 obtain⟨q,J⟩:∃q,q=Q0 (I2 l) d:=⟨_,rfl⟩
 have hS:=BQ (I2 l) d B1 hn;have K:bL l d m 0 q=W:=by rw[J,K,hW];rfl
 rw[<-J]at U hS;rw[<-hW];refine FnOk.intro Tryz.func303 G6 Z Z Z Z (zz 2 ?_);refine B8 (P3 3 Z Z Z) Z (B8 (P3 5 Z Z Z) Z (zz 6 ?_));refine D3 (QH l B1) (zz 1 ?_);refine D3 (hS) ?_;refine zc 12 (fun G=>?_) fun G=>?_
 ·cases G
 refine zz 3 ?_;refine B8 (E6 10 Z) Z (zz 1 ?_);refine E2 (B95 20 Merged 2 mergedC 419 (kb:=10) (o:=0) Z Z Z) (zz 2 ?_);refine B8 (E6 11 Z) Z (zz 15 ?_);refine C5 (X:=Nat×Nat×Nat×List Merged) (fun x=>([(1,C0 Int 1 E3 d),(3,.s (.one (.ref 3 0))),(5,.s (.one (.ref 5 0))),(10,.s (.one (.ref 10 0))),(11,.s (.one (.ref 11 0))),(12,.s (.one (.clo 337 [] [(11,0),(10,0),(3,0),(5,0)]))),(28,C0 Change 4 changeC q),(29,B2 q.length),(30,B2 x.1)],[(3,VV l),(5,qT m),(10,.box [.buf 20 Merged 2 mergedC x.2.2.2]),(11,aV x.2.1),(20,.spare x.2.2.2.length 2 419)]))
  (fun x=>x.1<=q.length/\ScOk x.2.1 x.2.2.1 (q.drop x.1) l.length d.length/\x.2.2.2.length<=x.2.1+x.2.2.1/\x.2.2.2++bL l d m x.2.1 (q.drop x.1)=W) (fun x=>q.length-x.1) (0,0,0,[]) ⟨Nat.zero_le _,U,s6,K⟩ (Sees.of lf lo) ?_
 rintro⟨i,k,j,z⟩ ⟨hi,w,af,y⟩;dsimp only at hi w af y ⊢;refine zc 5 (fun G=>?_) fun G=>?_;rotate_left
 ·have ae:i=q.length:=by have:=A1 G;omega
  rw[ae,C51 (Nat.le_refl _)]at y w;have H:(k:Int)<=l.length/\(j:Int)<=d.length:=w;have y:z++w7 l m k l.length=W:=y;refine zz 6 ?_;refine eW (xJ l z m k l.length B1 B1 B1 B1 B1 Z Z Z Z Z) Z Z Z Z ?_;rintro _ _ ⟨rfl,rfl⟩;refine zz 2 ?_;rw[y];refine E2 (Sees.forget 20) (zz 6 ?_);exact A8 (S8 rfl rfl rfl rfl rfl) rfl
 have S:i<q.length:=by have:=A0 G;omega
 have hv:q[i]?=some q[i]:=by simp[S]
 rw[C38 S]at y w;obtain⟨c,hc⟩:∃c,c=q[i]:=⟨_,rfl⟩
 rw[<-hc]at hv y w;obtain⟨⟨o1,o2⟩,⟨o3,o4⟩,⟨o5,o6⟩,⟨o7,o8⟩,o9,aj,w⟩:=w;have H:=w.end_le;obtain⟨co,P,cn,O⟩:=c;dsimp only at o1 o2 o3 o4 o5 o6 o7 o8 o9 aj w H;obtain⟨A,rfl⟩:∃A:Nat,co=A:=⟨co.toNat,by omega⟩
 obtain⟨B,rfl⟩:∃B:Nat,P=B:=⟨P.toNat,by omega⟩
 obtain⟨C,rfl⟩:∃C:Nat,cn=C:=⟨cn.toNat,by omega⟩
 obtain⟨D,rfl⟩:∃D:Nat,O=D:=⟨O.toNat,by omega⟩
 rw[bL]at y;dsimp only at y;simp only[C31]at y;have aq:=tG l m k A;have V:((l.drop A).take B).length=B:=by rw[C41,C45];omega
 refine zz 5 ?_;refine A7 (A9 Z (.pure _ _ _ _) Z B1 hv) Z (zz 1 ?_);refine B8 (E6 14 Z) Z (zz 2 ?_);refine K4 [(1,C0 Int 1 E3 d),(3,.s (.one (.ref 3 0))),(5,.s (.one (.ref 5 0))),(10,.s (.one (.ref 10 0))),(11,.s (.one (.ref 11 0))),(12,.s (.one (.clo 337 [] [(11,0),(10,0),(3,0),(5,0)]))),(14,.s (.one (.ref 14 0))),(28,C0 Change 4 changeC q),(29,B2 q.length),(30,B2 i)] [(3,VV l),(5,qT m),(10,.box [.buf 20 Merged 2 mergedC z]),(11,aV k),(20,.spare z.length 2 419),(14,.box [.p (.v (.int .i64 A)),.p (.v (.int .i64 B)),.p (.v (.int .i64 C)),.p (.v (.int .i64 D))])] (Sees.of lf lo) (zz 5 ?_);refine eW (xJ l z m k A B1 B1 B1 B1 B1 Z Z Z Z Z) Z Z Z Z ?_;rintro _ _ ⟨rfl,rfl⟩;refine zz 1 ?_;obtain⟨E,L⟩:∃o',o'=z++w7 l m k A:=⟨_,rfl⟩
 have y:E++((l.drop A).take B++uK d m C D++bL l d m (A+B) (q.drop (i+1)))=W:=by rw[L,<-y];simp only[C42]
 have am:E.length<=k+j+(A-k):=by rw[L,C32];omega
 rw[<-L];refine K4 [(1,C0 Int 1 E3 d),(3,.s (.one (.ref 3 0))),(5,.s (.one (.ref 5 0))),(10,.s (.one (.ref 10 0))),(11,.s (.one (.ref 11 0))),(12,.s (.one (.clo 337 [] [(11,0),(10,0),(3,0),(5,0)]))),(14,.s (.one (.ref 14 0))),(28,C0 Change 4 changeC q),(29,B2 q.length),(30,B2 i)] [(3,VV l),(5,qT m),(10,.box [.buf 20 Merged 2 mergedC E]),(11,aV A),(20,.spare E.length 2 419),(14,.box [.p (.v (.int .i64 A)),.p (.v (.int .i64 B)),.p (.v (.int .i64 C)),.p (.v (.int .i64 D))])] (Sees.of lf lo) (k2 ?_);have Q:((A:Int)+B).toNat-(A:Int).toNat=B:=by omega
 refine zz 8 ?_;refine D7 (x6 Z (.pure _ _ _ _) Z Z B1 B1 B1) Z Z (KF (R1 Z Z Z (.pure _ _ _ _) (by (rw[Q,C31,V];omega)) Z) Z Z ?_);refine zz 2 ?_;rw[Q,C31];refine zz 9 ?_;have ac:((C:Int)+D).toNat-(C:Int).toNat=D:=by omega
 have ad:((d.drop C).take D).length=D:=by rw[C41,C45];omega
 refine zz 9 ?_;refine A7 (x6 Z (.pure _ _ _ _) Z Z B1 B1 B1) Z (zz 3 ?_);rw[ac,C31];refine zz 1 ?_;obtain⟨F,M⟩:∃o',o'=E++(l.drop A).take B:=⟨_,rfl⟩
 have y:F++(uK d m C D++bL l d m (A+B) (q.drop (i+1)))=W:=by rw[M,<-y];simp only[C42]
 have an:F.length<=k+j+(A-k)+B:=by rw[M,C32,V];omega
 rw[<-M];obtain⟨NL,R⟩:∃NL,NL=(d.drop C).take D:=⟨_,rfl⟩
 rw[<-R]at ad ⊢;refine C5 (X:=Nat) (fun t=>([(1,C0 Int 1 E3 d),(3,.s (.one (.ref 3 0))),(5,.s (.one (.ref 5 0))),(10,.s (.one (.ref 10 0))),(11,.s (.one (.ref 11 0))),(12,.s (.one (.clo 337 [] [(11,0),(10,0),(3,0),(5,0)]))),(28,C0 Change 4 changeC q),(29,B2 q.length),(30,B2 i),(59,C0 Int 1 E3 NL),(60,B2 NL.length),(61,B2 t)],[(3,VV l),(5,qT m),(10,.box [.buf 20 Merged 2 mergedC (F++uK d m C t)]),(11,aV ((A:Int)+B)),(20,.spare (F++uK d m C t).length 2 419)])) (fun t=>t<=D) (fun t=>D-t) 0 (Nat.zero_le _) (by rw[show uK d m C 0=[] by unfold uK;simp,C60];exact Sees.of lf lo) ?_;intro t ag;dsimp only at ag ⊢;have ap:=xK d m C t;refine zc 5 (fun G=>?_) fun G=>?_
 ·have T:t<D:=by have:=A0 G;omega
  have I:C+t<d.length:=by omega
  have ab:NL[t]?=some d[C+t]:=by rw[R,C59 T,C61,C29 I]
  have Y:=A46 d m I;obtain⟨v,ai⟩:∃v,v=d[C+t]:=⟨_,rfl⟩
  rw[<-ai]at ab Y;refine zz 5 ?_;refine A7 (A9 Z (.pure _ _ _ _) Z B1 ab) Z (zz 8 ?_);refine A7 (C6 (c:=mergedC) (ys:=[⟨v,m⟩]) (D1 Z Z Z Z F2) Z Z Z) Z (B8 (R1 Z Z Z (.pure _ _ _ _) b1w Z) Z (zz 6 ?_));refine⟨t+1,by omega,by omega,?_⟩;rw[Y,<-C42];exact Sees.of lf lo
 have ah:t=D:=by have:=A1 G;omega
 have ak:q.length<=4097:=by rw[J];have:=pQ (H5 0 0 (I2 l) d) 0 0 (I2 l).length d.length;have:=gY 0 0 (I2 l) d;unfold Q0 jR;omega
 rw[ah];refine zz 5 ?_;have al:=xK d m C D;exact⟨(i+1,A+B,C+D,F++uK d m C D),⟨by dsimp only;omega,by dsimp only;exact w,by dsimp only;rw[C32];omega,by dsimp only;rw[C42];exact y⟩,by dsimp only;omega,Sees.of lf lo⟩
theorem lA:∀(b:List (List Int)) (a:List Merged) (p B:Nat),(∀x∈b,x.length<=B)->a.length+b.length*B<=4096->(I8 a p b).2=0
 | [],a,p,B,_,_=>rfl
 | x::r,a,p,B,h,hb=>by
  have e:=h x s6;rw[C34,C62,Nat.one_mul]at hb;have d:=fY a x p;unfold I8;rw[A6 B1];exact lA r _ _ B (fun y c=>h y (by simp[c])) B1
theorem IB(p:Nat)(h:p<=32):IntKind.u32.wrap (1*2 ^ (min (p:Int).toNat IntKind.u32.bits))=J6 p:=by
 unfold J6;rw[WJ (n:=(p:Int)) B1]
theorem LW(b:List (List Int))(B:Nat)(n:0<b.length)(hn:b.length<=32)(F:∀x∈b,x.length<=B)(hb:b.length*B<=4096):FnOk Tryz.prog 268 [pIntss b] (fun U=>U=[pMerged (H7 b).1,D2 0]):=by
 obtain⟨W,H⟩:∃W,W=(H7 b).1:=⟨_,rfl⟩
 have y:W=(I8 [] 0 b).1:=by rw[H];unfold H7;rw[A6 B1]
 rw[<-H];have K:∀x,b[(0:Int).toNat]?=some x->x.length<=4096:=fun x w=>by
  have Y:=F x (C53 w);have M:0<b.length:=List.length_pos_of_mem (C53 w);have h3:1*B<=b.length*B:=C47 _ M;omega
 have D:0<b.length->∃x,b[(0:Int).toNat]?=some x/\x.length<=4096:=fun h=>⟨b[0],C29 h,K _ (C29 h)⟩
 refine FnOk.intro Tryz.func268 G6 Z Z Z Z (zz 7 ?_);obtain⟨V,C,R⟩:=D n;refine zz 10 ?_;refine P7 Z Z Z (.gd (.val _)) Z (fun m=>by have Q:=m;(try simp at Q);obtain⟨c,f⟩:=W8 m;(try rw[c]);(try rw[f]);exact A9 Z (.pure _ _ _ _) Z B1 C) ?_;refine P7 Z Z Z (.gd (.val _)) Z (fun m=>by obtain⟨c,f⟩:=W8 m;(try rw[c]);(try rw[f]);exact L3 Z Z) ?_;refine P7 Z Z Z (.gd (.val _)) Z (fun m=>by obtain⟨c,f⟩:=W8 m;(try rw[c]);(try rw[f]);exact y9 Z (.pure _ _ _ _)) ?_;refine P7 Z Z Z (.gd (.val _)) Z (fun m=>by obtain⟨c,f⟩:=W8 m;(try rw[c]);(try rw[f]);exact wS Z Z) ?_;refine zc 3 (fun j=>?_) fun j=>?_
 ·exfalso;have S:¬((b.length:Int)>32):=by omega
  have T:¬((V.length:Int)>4096):=by omega
  simp[S,T]at j
 refine K4 [(0,C0 (List Int) 1 intsC b)] [] (Sees.of lf lo) (zz 3 ?_);refine A7 (K7 _ 2 mergedC) Z (zz 9 ?_);refine C5 (X:=Nat×List Merged) (fun x=>([(4,C0 Merged 2 mergedC x.2),(23,C0 (List Int) 1 intsC b),(24,B2 b.length),(25,B2 x.1)],[])) (fun x=>x.1<=b.length/\x.2.length<=x.1*B/\W=(I8 x.2 x.1 (b.drop x.1)).1) (fun x=>b.length-x.1) (0,[]) ⟨Nat.zero_le _,s6,y⟩ (Sees.of lf lo) ?_;rintro⟨p,i⟩ ⟨I,z,k⟩;dsimp only at I z k ⊢;have P:p*B<=b.length*B:=C47 _ I;refine zc 5 (fun j=>?_) fun j=>?_;rotate_left
 ·have A:p=b.length:=by have:=A1 j;omega
  rw[A,C51 (Nat.le_refl _)]at k;have k:W=i:=k;refine zz 8 ?_;exact A8 (S8 rfl rfl rfl rfl rfl) (by rw[k])
 have q:p<b.length:=by have:=A0 j;omega
 have J:b[p]?=some b[p]:=by simp[q]
 have w:=F _ (C35 q);rw[C38 q,I8]at k;obtain⟨x,E⟩:∃x,x=b[p]:=⟨_,rfl⟩
 rw[<-E]at J w k;have L:1*B<=b.length*B:=C47 _ n;rw[A6 B1]at k;have O:=fY i x p;have G:=A47 i x (J6 p) B1 B1;have s:vM i x (J6 p)=n8 i x p:=rfl;rw[s]at G;refine zz 6 ?_;refine A7 (A9 Z (.pure _ _ _ _) Z B1 J) Z (zz 13 ?_);refine A7 (YD Z Z (by (show (0:Int)<=(p:Int);omega))) Z ?_;rw[IB p B1];refine x7 G Z Z Z ?_;rintro _ rfl;refine zz 6 ?_;refine zc 5 (fun j=>?_) fun j=>?_
 ·cases j
 refine zz 5 ?_;exact⟨(p+1,n8 i x p),⟨by dsimp only;omega,by dsimp only;rw[C62];omega,k⟩,by dsimp only;omega,Sees.of lf lo⟩
theorem BW(files:List (List Str))(b:files.length<=1048576)(a:files.flatten.length<=536870911):FnOk Tryz.prog 203 [pStrss files] (fun rs=>rs=[Z7 (J1 files)]):=by
 refine FnOk.intro Tryz.func203 G6 Z Z Z Z (zz 7 ?_);refine D3 (HO files b a) (zz 12 ?_);exact A8 (F7 rfl rfl rfl) rfl
abbrev V2(m:Nat):List TC:=Q8 intsC m 0 (fun _=>([]:List (List Int)))
abbrev x1(d:List Str)(a:List Int)(n:Nat):Ob:=.box [.p (.list Str 1 L2 d),.p (.list Int 1 E3 a),.mut 731,.mut 732,.p (.v (.int .i64 n)),.p (.v (.slice none 0 0))]
abbrev dB:Ob:=.box [.p (.v (.int .i64 0)),.p (.v (.slice none 0 0))]
abbrev mJ(c:List Str)(b d:List Int)(g:Nat->List (List Int))(n m:Nat):Obs :=
 (4,dB)::(730,x1 c b n)::(731,.arr Int 1 sD d)::(732,.growT 222 m 1 (V2 m))::M7 intsC g (List.range m)
theorem mK{m k:Nat}(c:k<1000):(V2 m).all (TC.free k)=true:=by
 rw[List.all_eq_true];intro t b;obtain⟨r,_,rfl⟩:=C54.1 b;rw[A6 B1];simp[TC.free,I9 (show r+1000≠k by omega)]
theorem VW{b:List Str}{a f:List Int}{g:Nat->List (List Int)}{n m:Nat}:K5 708 (mJ b a f g n m)=true:=by
 have d:=qI (k:=708) B1 (List.range m) (fun r _=>by omega) (c:=intsC) (g:=g);have e:=mK (m:=m) (k:=708) B1;simp only[K5,Ob.free,d,e];rfl
theorem YY{i:Nat}{x y:Ob}{rest:Obs}:∀k o,B4 ((i,x)::rest) k=some o->B4 ((i,x)::(i,y)::rest) k=some o:=by
 intro k o h;by_cases a:i=k
 ·subst a;rw[C4]at h ⊢;exact h
 ·rw[B0 a]at h;rw[B0 a,B0 a];exact h
abbrev chBox(a b c d:Int):Ob:=.box [.p (.v (.int .i64 a)),.p (.v (.int .i64 b)),.p (.v (.int .i64 c)),.p (.v (.int .i64 d))]
theorem b4w{p:Prop}(h:p:=by repeat (first | exact bX | refine tail_cons rfl ?_ | refine YJ _ rfl ?_)):p:=h
theorem b0x{p:Prop}(h:p:=by repeat (first | exact mA | refine sS rfl ?_)):p:=h
theorem B39{gf:Fr}(x:List Str)(b j z:List Int)(g:Nat->List (List Int))(n p:Nat)(hl:b.length<=4096)(hf:j.length<=4096)(aq:z.length=b.length)(hp:p<32)(hpn:p<n)(hg:∀k,(g k).length=n) :
  AL.Met Tryz.prog 204 [.one (.ref 730 0),.one (.p (.v (.int .i64 p))),.one (.p (.list Int 1 E3 j))] gf (mJ x b z g n (b.length+1)) [708]
   (fun rs ob'=>rs=[.one (.p (.v (.int .i64 0)))]/\ob'=mJ x b ((Q0 j b).foldl (O9 p) z) ((Q0 j b).foldl (R6 p j) g) n (b.length+1)):=by
 have hS:=BQ j b hf hl;have ah:=MH j b;have az:=pQ (H5 0 0 j b) 0 0 j.length b.length;have ba:=gY 0 0 j b;obtain⟨y,W⟩:∃y,y=Q0 j b:=⟨_,rfl⟩
 have aw:y.length<=4097:=by rw[W];unfold Q0 jR;omega
 rw[<-W]at hS ah ⊢;refine AL.Met.introH Tryz.func204 G6 rfl rfl rfl (fun U=>?_);refine zz 11 ?_;refine D3 (hS) ?_;refine zc 12 (fun H=>?_) fun H=>?_
 ·cases H
 refine zz 9 ?_;refine E2 (C07 [708] (l:=[(0,.s (.one (.ref 730 0))),(1,B2 p),(2,C0 Int 1 E3 j),(24,C0 Change 4 changeC y),(25,B2 y.length),(26,B2 0)]) (ob':=mJ x b z g n (b.length+1)) lf U rT (fun _ _ h=>h)) ?_;refine C5 (X:=Nat) (fun i=>([(0,.s (.one (.ref 730 0))),(1,B2 p),(2,C0 Int 1 E3 j),(24,C0 Change 4 changeC y),(25,B2 y.length),(26,B2 i)]++C8 [708] gf,mJ x b ((y.take i).foldl (O9 p) z) ((y.take i).foldl (R6 p j) g) n (b.length+1))) (fun i=>i<=y.length) (fun i=>y.length-i) 0 (Nat.zero_le _) (B96 fun _ _ h=>h) ?_;intro i hi;dsimp only at hi ⊢;refine zc 5 (fun H=>?_) fun H=>?_;rotate_left
 ·have an:i=y.length:=by have:=A1 H;omega
  rw[an,C44];refine zz 6 ?_;exact F1 (O3 rfl rfl) rT (fun _ _ h=>h) ⟨rfl,rfl⟩
 have I:i<y.length:=by have:=A0 H;omega
 have hv:y[i]?=some y[i]:=by simp[I]
 have V:=ah _ (C35 I);have G:(y.take (i+1)).foldl (O9 p) z=O9 p ((y.take i).foldl (O9 p) z) y[i]:=by rw[C48 I,C78];rfl
 have E:(y.take (i+1)).foldl (R6 p j) g=R6 p j ((y.take i).foldl (R6 p j) g) y[i]:=by rw[C48 I,C78];rfl
 have ap:((y.take i).foldl (O9 p) z).length=b.length:=by
  have O:∀(q:List Change) (z:List Int),(q.foldl (O9 p) z).length=z.length:=by
   intro q;induction q with
   | nil=>intro z;rfl
   | cons c r ih=>intro z;rw[C68,ih,cV]
  rw[O,aq]
 have ab:∀k,((y.take i).foldl (R6 p j) g k).length=n:=by
  have O:∀(q:List Change) (g:Nat->List (List Int)),(∀k,(g k).length=n)->∀k,(q.foldl (R6 p j) g k).length=n:=by
   intro q;induction q with
   | nil=>intro g h;exact h
   | cons c r ih =>
    intro g h;refine ih _ (fun k=>?_);unfold R6;split
    ·rw[C73];exact h k
    ·exact h k
  exact O _ _ hg
 obtain⟨J,ao⟩:∃J,J=(y.take i).foldl (O9 p) z:=⟨_,rfl⟩
 obtain⟨g1,al⟩:∃g1,g1=(y.take i).foldl (R6 p j) g:=⟨_,rfl⟩
 obtain⟨c,hc⟩:∃c,c=y[i]:=⟨_,rfl⟩
 rw[<-ao]at G ap ⊢;rw[<-al]at E ab ⊢;rw[<-hc]at hv V G E;obtain⟨co,R,cn,Q⟩:=c;dsimp only at V;obtain⟨A,rfl⟩:∃A:Nat,co=A:=⟨co.toNat,by omega⟩
 obtain⟨B,rfl⟩:∃B:Nat,R=B:=⟨R.toNat,by omega⟩
 obtain⟨C,rfl⟩:∃C:Nat,cn=C:=⟨cn.toNat,by omega⟩
 obtain⟨D,rfl⟩:∃D:Nat,Q=D:=⟨Q.toNat,by omega⟩
 have K:∀ai,K5 708 (mJ x b ai g1 n (b.length+1))=true:=fun ai=>VW;obtain⟨aj,ak,_⟩:=Q6 (K J);refine zz 5 ?_;refine A7 (A9 Z (.pure _ _ _ _) Z B1 hv) Z (zz 1 ?_);refine B8 (KB 708 ak G6) Z (zz 2 ?_);rw[aj];refine K4 ([(0,.s (.one (.ref 730 0))),(1,B2 p),(2,C0 Int 1 E3 j),(10,.s (.one (.ref 708 0))),(24,C0 Change 4 changeC y),(25,B2 y.length),(26,B2 i)]++C8 [708] gf) ((708,chBox A B C D)::mJ x b J g1 n (b.length+1)) (B91 lf (G8 U) b4w YY) ?_;refine zz 8 ?_;refine C5 (X:=Nat) (fun t=>([(0,.s (.one (.ref 730 0))),(1,B2 p),(2,C0 Int 1 E3 j),(10,.s (.one (.ref 708 0))),(11,B2 ((C+t:Nat):Int)),(24,C0 Change 4 changeC y),(25,B2 y.length),(26,B2 i)]++C8 [708] gf,(708,chBox A B C D)::mJ x b (O9 p J ⟨A,B,C,t⟩) g1 n (b.length+1))) (fun t=>t<=D) (fun t=>D-t) 0 (Nat.zero_le _) ?_ ?_
 ·dsimp only;rw[show ((0:Nat):Int)=0 from rfl,SU];exact B91 lf (G8 U) rT (fun _ _ h=>h)
 intro t ar;dsimp only at ar ⊢;have M:=cV p J ⟨A,B,C,t⟩;refine zc 11 (fun H=>?_) fun H=>?_
 ·have ax:t<D:=by have:=A0 H;omega
  obtain⟨q1,q2⟩:=SW p J A B C t B1;have av:(O9 p J ⟨A,B,C,t⟩)[((C+t:Nat):Int).toNat]?=some (J.getD (C+t) 0):=by rw[C31];exact q1
  refine zz 9 ?_;refine D7 (E0 Z Z Z B1 (by (rw[M];omega))) Z Z ?_;refine D7 (M9 Z Z av Z) Z Z (zz 1 ?_);refine D7 (YD Z Z (by (show (0:Int)<=(p:Int);omega))) Z Z ?_;refine D7 (KA Z Z Z (fun _=>rfl)) Z Z (D7 (E0 Z Z Z B1 (by (rw[M];omega))) Z Z ?_);refine NX (I1 TySz.out Z Z (by (rw[M];omega)) Z Z) Z ?_;refine zz 1 ?_;rw[IB p B1];refine zz 5 ?_;refine⟨t+1,by omega,by omega,?_⟩;rw[<-q2];refine B91 ⟨jH rfl,jH rfl,jH rfl,jH rfl,leE Z (by rw[show ((C+(t+1):Nat):Int)=((C+t:Nat):Int)+1 by omega]),jH rfl,jH rfl,jH rfl,trivial⟩ (G8 U) b5q ?_;exact r9 (L:=[(708,_),(4,_),(730,_),(731,_),(732,_)]) ⟨rfl,rfl,rfl,rfl,rfl,trivial⟩ b0x
 have au:t=D:=by have:=A1 H;omega
 subst au;rw[<-G];have hC:C<b.length+1:=by omega
 have ag:(V2 (b.length+1))[C]?=some (.mut (C+1000)):=NZ hC (Nat.zero_le _);have ay:(V2 (b.length+1)).length=b.length+1:=AE;obtain⟨m2,ad⟩:∃m2,m2=(y.take (i+1)).foldl (O9 p) z:=⟨_,rfl⟩
 rw[<-ad];have af:B4 ((708,chBox A B C t)::mJ x b m2 g1 n (b.length+1)) (C+1000)=some (.arr (List Int) 1 intsC (g1 C)):=by
  rw[B0 B1,B0 B1,B0 B1,B0 B1,B0 B1];exact nP (C40.2 hC)
 have Y:=ab C;have S:((A:Int)+B).toNat-(A:Int).toNat=B:=by omega
 have ae:(g1 C).set p ((j.drop A).take B)=(y.take (i+1)).foldl (R6 p j) g C:=by
  rw[E,R6,A5 s6];dsimp only;rw[S,C31]
 have F:∀q,q≠C->(y.take (i+1)).foldl (R6 p j) g q=g1 q:=by
  intro q hq;rw[E,R6,A6 (by simpa using hq)]
 refine zz 8 ?_;refine D7 (eZ Z Z Z B1 (by (first | omega | (rw[C31];omega)))) Z Z (D7 (vC Z Z (by simpa using ag)) Z Z (zz 9 ?_));refine D7 (x6 Z (.pure _ _ _ _) Z Z B1 B1 B1) Z Z (D7 (E0 Z af Z B1 (by (first | omega | (rw[Y];omega)))) Z Z (NX (I1 TySz.out Z af (by (first | omega | (rw[C31,Y];omega))) Z Z) Z (zz 1 ?_)));rw[S,C31,C31,ae];refine zz 4 ?_;refine⟨i+1,by omega,by omega,?_⟩;refine B91 lf (G8 U) b5q ?_;rw[<-ad];obtain⟨g2,am⟩:∃g2,g2=(y.take (i+1)).foldl (R6 p j) g:=⟨_,rfl⟩
 rw[<-am]at F ⊢;intro k o hk;have P:=B16 (c:=intsC) (g:=g1) (g':=g2) (pre:=[(4,dB),(730,x1 x b n),(731,.arr Int 1 sD m2),(732,.growT 222 (b.length+1) 1 (V2 (b.length+1)))]) rfl (C40.2 hC) F k o hk;by_cases ac:C+1000=k
 ·subst ac;rw[C4]at P ⊢;exact P
 ·rw[B0 ac]at P ⊢;by_cases h7:708=k
  ·subst h7;have:B4 ([(4,dB),(730,x1 x b n),(731,.arr Int 1 sD m2),(732,.growT 222 (b.length+1) 1 (V2 (b.length+1)))]++M7 intsC g1 (List.range (b.length+1))) 708=none:=by
    rw[Q7 rfl];exact B15 B1
   rw[this]at P;cases P
  ·rw[B0 h7];exact P
end Go.Proofs.YtgkjogphmmoakaaGreatDoor
