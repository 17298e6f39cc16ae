
/- Walks of the program's functions. -/
import Derived.Test.YtgkjogphmmoakaaGreatDoorFg
set_option linter.all false
namespace Go.Proofs.YtgkjogphmmoakaaGreatDoor
open Go Go.AL
set_option maxRecDepth 100000
set_option maxHeartbeats 4000000
abbrev fD(g:List Str)(d j:List Int)(h:List (List (List Int)))(n:Nat)(c:List Row):Obs :=
 [(4,dB),(730,.box [.p (.list Str 1 L2 g),.p (.list Int 1 E3 d),.p (.list Int 1 sD j),.p (.list (List (List Int)) 1 intssC h),.p (.v (.int .i64 n)),.buf 733 Row 3 rowC c]),(733,.spare c.length 3 89)]
theorem VX{gf:Fr}(d j:List Str)(q y:List Int)(g:Nat->List (List Int))(n B:Nat)(hl:j.length<=4096)(am:q.length=j.length)(an:y.length=j.length)(hn:1<=n/\n<=32)(hB:n*B<=4096)
  (hg:∀k,(g k).length=n/\∀x∈g k,x.length<=B/\∀v∈x,0<=v/\v<(d.length:Int)) (ai:∀k,k<j.length->0<=q.getD k 0/\d[(q.getD k 0).toNat]?=some (j.getD k [])) :
  AL.Met Tryz.prog 205 [.one (.ref 730 0)] gf (fD d q y ((List.range (j.length+1)).map g) n []) [708,733]
   (fun rs ob'=>rs=[.one (.p (.v (.int .i64 0)))]/\ob'=fD d q y ((List.range (j.length+1)).map g) n (i6 d j (y,g) (j.length+1))):=by
 obtain⟨w,I⟩:∃w,w=(List.range (j.length+1)).map g:=⟨_,rfl⟩
 have al:w.length=j.length+1:=by rw[I];simp
 obtain⟨R,V⟩:∃R:Nat->List Row,R=fun k=>i6 d j (y,g) k:=⟨_,rfl⟩
 obtain⟨F,hF⟩:∃F:Merged->Row,F=fun m=>⟨true,m.Parents,d.getD m.Line.toNat []⟩:=⟨_,rfl⟩
 have O:∀k,(H7 (g k)).1.length<=4096/\∀m∈(H7 (g k)).1,(0<=m.Parents/\m.Parents<4294967296)/\0<=m.Line/\m.Line<(d.length:Int):=fun k=>by
  have h3:=gZ (fun v=>0<=v/\v<(d.length:Int)) B (g k) (hg k).2;rw[(hg k).1]at h3;exact⟨by omega,h3.2⟩
 have L:∀k,R (k+1)=R k++((H7 (g k)).1.map F++(if k<j.length then [⟨false,y.getD k 0,j.getD k []⟩] else [])):=fun k=>by
  rw[V];dsimp only;rw[xO,V6,hF]
 have ab:∀k,(R k).length<=k*4097:=fun k=>by
  induction k with
  | zero=>rw[V];simp[i6]
  | succ k ih=>rw[L];have:=(O k).1;simp only[C32,C55];split<;>simp<;>omega
 have ac:i6 d j (y,g) (j.length+1)=R (j.length+1):=by rw[V]
 rw[ac,<-I];have Y:R 0=[]:=by rw[V];rfl
 refine AL.Met.introH Tryz.func205 G6 rfl rfl rfl (fun H=>?_);refine zz 15 ?_;refine E2 (C07 [708,733] (l:=[(0,.s (.one (.ref 730 0))),(12,C0 (List (List Int)) 1 intssC w),(13,B2 w.length),(14,B2 0)]) (ob':=fD d q y w n []) lf H rT (fun _ _ h=>h)) ?_;refine C5 (X:=Nat) (fun k=>([(0,.s (.one (.ref 730 0))),(12,C0 (List (List Int)) 1 intssC w),(13,B2 w.length),(14,B2 k)]++C8 [708,733] gf,fD d q y w n (R k))) (fun k=>k<=j.length+1) (fun k=>j.length+1-k) 0 (Nat.zero_le _) (by rw[Y];exact B96 fun _ _ h=>h) ?_;intro k hk;dsimp only at hk ⊢;have ak:=ab k;refine zc 5 (fun A=>?_) fun A=>?_;rotate_left
 ·have hkl:k=j.length+1:=by have:=A1 A;omega
  rw[hkl];refine zz 6 ?_;exact F1 (O3 rfl rfl) rT (fun _ _ h=>h) ⟨rfl,rfl⟩
 have ag:k<j.length+1:=by have:=A0 A;omega
 have ad:w[k]?=some (g k):=by rw[I,C63,C79 ag];rfl
 have M:=O k;have P:=hg k;have hC:=LW (g k) B B1 B1 (fun x hx=>(P.2 x hx).1) (by rw[P.1];exact hB);have z:=L k;obtain⟨l,af⟩:∃l,l=(H7 (g k)).1:=⟨_,rfl⟩
 rw[<-af]at M hC z;refine zz 6 ?_;refine A7 (A9 Z (.pure _ _ _ _) Z B1 ad) Z (zz 7 ?_);refine D3 (hC) ?_;refine zc 12 (fun A=>?_) fun A=>?_
 ·cases A
 refine zz 9 ?_;refine C5 (X:=Nat) (fun i=>([(0,.s (.one (.ref 730 0))),(3,B2 k),(12,C0 (List (List Int)) 1 intssC w),(13,B2 w.length),(14,B2 k),(27,C0 Merged 2 mergedC l),(28,B2 l.length),(29,B2 i)]++C8 [708,733] gf,fD d q y w n (R k++(l.take i).map F))) (fun i=>i<=l.length) (fun i=>l.length-i) 0 (Nat.zero_le _) ?_ ?_
 ·dsimp only;rw[List.take_zero,C77,C60];exact B91 lf (G8 H) rT (fun _ _ h=>h)
 intro i hi;dsimp only at hi ⊢;have J:(R k++(l.take i).map F).length<=k*4097+4096:=by simp only[C32,C55,C41];omega
 refine zc 5 (fun A=>?_) fun A=>?_
 ·have K:i<l.length:=by have:=A0 A;omega
  have E:l[i]?=some l[i]:=by simp[K]
  have ae:=M.2 l[i] (C35 K);have T:(l.take (i+1)).map F=(l.take i).map F++[F l[i]]:=by rw[C48 K];simp only[C50,C39,C77]
  obtain⟨m,hm⟩:∃m,m=l[i]:=⟨_,rfl⟩
  rw[<-hm]at E ae T;have aj:d[m.Line.toNat]?=some (d.getD m.Line.toNat []):=by rw[C33,C29 B1];rfl
  have W:F m=⟨true,m.Parents,d.getD m.Line.toNat []⟩:=by rw[hF]
  obtain⟨Q,U⟩:∃Q,Q=R k++(l.take i).map F:=⟨_,rfl⟩
  rw[<-U]at J ⊢;refine zz 5 ?_;refine A7 (A9 Z (.pure _ _ _ _) Z B1 E) Z (zz 1 ?_);refine B8 (KB 708 Z G6) Z (zz 2 ?_);refine K4 ([(0,.s (.one (.ref 730 0))),(3,B2 k),(8,.s (.one (.ref 708 0))),(12,C0 (List (List Int)) 1 intssC w),(13,B2 w.length),(14,B2 k),(27,C0 Merged 2 mergedC l),(28,B2 l.length),(29,B2 i)]++C8 [708,733] gf) ((708,.box [.p (.v (.int .i64 m.Line)),.p (.v (.int .u32 m.Parents))])::fD d q y w n Q) (B91 lf (G8 H) b4w (ObIn.spec (ob':=(708,.box [.p (.v (.int .i64 m.Line)),.p (.v (.int .u32 m.Parents))])::fD d q y w n Q) ⟨rfl,rfl,rfl,rfl,trivial⟩)) ?_;refine Q9 [22,18] [[],[18],[22,18]] [(18,([733],[38])),(22,([],[]))] [(0,[]),(1,[]),(2,[]),(3,[]),(4,[]),(5,[]),(6,[]),(7,[]),(8,[]),(9,[]),(10,[]),(11,[]),(12,[]),(13,[]),(14,[]),(15,[]),(16,[]),(17,[]),(18,[]),(19,[18]),(20,[18]),(21,[18]),(22,[18])] [(0,[18])] F6 F6 (D6 Z Z F6 Z Z (B3 Z Z) (D6 Z Z F6 Z Z (B3 Z Z) (D6 Z Z F6 Z Z (E8 Z) (D6 Z Z F6 Z Z (B5 Z) (D6 Z Z F6 Z Z (B5 Z) (D6 Z Z F6 Z Z (C2 Z Z Z) (D6 Z Z F6 Z Z (B5 Z) (D6 Z Z F6 Z Z (C2 Z Z Z) (D6 Z Z F6 Z Z (B3 Z Z) (D6 Z Z F6 Z Z (E8 Z) (D6 Z Z F6 Z Z (B5 Z) (D6 Z Z F6 Z Z (C2 Z Z Z) (D6 Z Z F6 Z Z (B5 Z) (D6 Z Z F6 Z Z (C2 Z Z Z) (D6 Z Z F6 Z Z (A9 Z (.pure _ _ _ _) Z B1 aj) (D6 Z Z F6 Z Z (L3 Z Z) (D6 Z Z F6 Z Z (Y9 Z) (D6 Z Z F6 Z Z (C6 (c:=rowC) (ys:=[⟨true,m.Parents,d.getD m.Line.toNat []⟩]) (D1 Z Z Z Z F2) Z Z Z) (Z9 Z Z F6 Z Z (jJ (fun G C=>R1 (W9 C Z) Z (W9 C Z) (.pure _ _ _ _) b8q Z)) Z (D6 Z Z F6 Z Z (E8 Z) (D6 Z Z F6 Z Z (B5 Z) (D6 Z Z F6 Z Z (B5 Z) (Z9 Z Z F6 Z Z (sR (fun G C=>H0 TySz.out (W9 C Z) Z (W9 C Z) Z Z Z)) Z ?_)))))))))))))))))))))));refine w_nilG rfl F6 rfl ?_ ?_
  ·refine L6 Z Z F6 Z Z (B3 Z Z) ?_;exact pC
  refine zz 4 ?_;refine⟨i+1,by omega,by omega,?_⟩;rw[T,W,<-C42,<-U];exact B91 lf (G8 H) b5q (ObIn.spec (ob':=fD d q y w n (Q++[⟨true,m.Parents,d.getD m.Line.toNat []⟩])) ⟨rfl,rfl,rfl,trivial⟩)
 have S:i=l.length:=by have:=A1 A;omega
 rw[S,C44]at J ⊢;rw[<-C42]at z;obtain⟨Q,U⟩:∃Q,Q=R k++l.map F:=⟨_,rfl⟩
 rw[<-U]at J z ⊢;refine zz 2 ?_
 ·skip;refine zc 9 (fun A=>?_) fun A=>?_
  ·have D:k<j.length:=by have:=A0 A;omega
   rw[A5 D]at z;obtain⟨q1,q2⟩:=ai k D;have ah:y[((k:Nat):Int).toNat]?=some (y.getD k 0):=by rw[C31,C33,C29 B1];rfl
   have E:q[((k:Nat):Int).toNat]?=some (q.getD k 0):=by rw[C31,C33,C29 B1];rfl
   have q3:=(List.getElem?_eq_some_iff.1 q2).1;skip;refine K4 ([(0,.s (.one (.ref 730 0))),(3,B2 k),(12,C0 (List (List Int)) 1 intssC w),(13,B2 w.length),(14,B2 k)]++C8 [708,733] gf) (fD d q y w n Q) (B91 lf (G8 H) rT (fun _ _ h=>h)) ?_;refine Q9 [32,28] [[],[28],[32,28]] [(28,([733],[68])),(32,([],[]))] [(0,[]),(1,[]),(2,[]),(3,[]),(4,[]),(5,[]),(6,[]),(7,[]),(8,[]),(9,[]),(10,[]),(11,[]),(12,[]),(13,[]),(14,[]),(15,[]),(16,[]),(17,[]),(18,[]),(19,[]),(20,[]),(21,[]),(22,[]),(23,[]),(24,[]),(25,[]),(26,[]),(27,[]),(28,[]),(29,[28]),(30,[28]),(31,[28]),(32,[28])] [(0,[28])] F6 F6 (D6 Z Z F6 Z Z (B3 Z Z) (D6 Z Z F6 Z Z (B3 Z Z) (D6 Z Z F6 Z Z (E8 Z) (D6 Z Z F6 Z Z (B5 Z) (D6 Z Z F6 Z Z (B5 Z) (D6 Z Z F6 Z Z (C2 Z Z Z) (D6 Z Z F6 Z Z (B3 Z Z) (D6 Z Z F6 Z Z (E8 Z) (D6 Z Z F6 Z Z (B5 Z) (D6 Z Z F6 Z Z (C2 Z Z Z) (D6 Z Z F6 Z Z (B3 Z Z) (D6 Z Z F6 Z Z (A9 Z (.pure _ _ _ _) Z B1 ah) (D6 Z Z F6 Z Z (L3 Z Z) (D6 Z Z F6 Z Z (B3 Z Z) (D6 Z Z F6 Z Z (E8 Z) (D6 Z Z F6 Z Z (B5 Z) (D6 Z Z F6 Z Z (C2 Z Z Z) (D6 Z Z F6 Z Z (B3 Z Z) (D6 Z Z F6 Z Z (E8 Z) (D6 Z Z F6 Z Z (B5 Z) (D6 Z Z F6 Z Z (C2 Z Z Z) (D6 Z Z F6 Z Z (B3 Z Z) (D6 Z Z F6 Z Z (A9 Z (.pure _ _ _ _) Z B1 E) ?_)))))))))))))))))))))));refine D6 Z Z F6 Z Z (L3 Z Z) (D6 Z Z F6 Z Z (A9 Z (.pure _ _ _ _) Z B1 q2) (D6 Z Z F6 Z Z (L3 Z Z) (D6 Z Z F6 Z Z (Y9 Z) (D6 Z Z F6 Z Z (C6 (c:=rowC) (ys:=[⟨false,y.getD k 0,j.getD k []⟩]) (D1 Z Z Z Z F2) Z Z Z) (Z9 Z Z F6 Z Z (jJ (fun G C=>R1 (W9 C Z) Z (W9 C Z) (.pure _ _ _ _) b8q Z)) Z (D6 Z Z F6 Z Z (E8 Z) (D6 Z Z F6 Z Z (B5 Z) (D6 Z Z F6 Z Z (B5 Z) (Z9 Z Z F6 Z Z (sR (fun G C=>H0 TySz.out (W9 C Z) Z (W9 C Z) Z Z Z)) Z ?_)))))))));refine w_nilG rfl F6 rfl ?_ ?_
   ·refine L6 Z Z F6 Z Z (B3 Z Z) ?_;exact pC
   refine zz 4 ?_;refine⟨k+1,by omega,by omega,?_⟩;rw[z];exact B91 lf (G8 H) b5q (ObIn.spec (ob':=fD d q y w n (Q++[⟨false,y.getD k 0,j.getD k []⟩])) ⟨rfl,rfl,rfl,trivial⟩)
  ·have D:¬k<j.length:=by have:=A1 A;omega
   rw[A6 D,C60]at z;refine zz 5 ?_;refine⟨k+1,by omega,by omega,?_⟩;rw[z];exact B91 lf (G8 H) b5q (fun _ _ h=>h)
theorem VY(l:List Str)(s:Str):∀k:Int,0<=k->s∈l->l[(J0 l s k-k).toNat]?=some s:=by
 induction l with
 | nil=>intro k _ h;cases h
 | cons x r e =>
  intro k f h;by_cases b:x=s
  ·unfold J0;rw[A5 b,Int.sub_self,b];rfl
  ·have c:s∈r:=by rcases C36.1 h with rfl | h;exact absurd rfl b;exact h
   have d:=e (k+1) B1 c;have g:=jV r s (k+1) B1 c;unfold J0;rw[A6 b,show (J0 r s (k+1)-k).toNat=(J0 r s (k+1)-(k+1)).toNat+1 by omega,List.getElem?_cons_succ];exact d
theorem QI(k:Nat):(V2 k++[TC.mut 734]).map (TC.ren 734 (k+1000))=V2 (k+1):=by
 unfold V2 Q8;rw[C50,C75,C50,C71];have b:(List.range k).map (TC.ren 734 (k+1000) ∘ fun r=>if r<0 then TC.p (.list (List Int) 1 intsC []) else TC.mut (r+1000))=(List.range k).map fun r=>if r<0 then TC.p (.list (List Int) 1 intsC []) else TC.mut (r+1000):=by
  refine List.map_congr_left fun r c=>?_;show TC.ren 734 (k+1000) (if r<0 then _ else TC.mut (r+1000))=_;rw[A6 B1];simp[TC.ren,I9 (show r+1000≠734 by omega)]
 exact congr (congrArg _ b) (by simp[TC.ren])
abbrev LX(n:Nat):Nat->List (List Int):=fun _=>List.replicate n []
theorem B40{k:Nat}(a:k<1000){m:Nat}{g:Nat->List (List Int)}:K5 k (M7 intsC g (List.range m))=true:=qI (k:=k) B1 (List.range m) (fun r _=>by omega) (c:=intsC) (g:=g)
abbrev YZ(c:List Str)(b d:List Int)(n k:Nat):Obs:=[(4,dB),(730,x1 c b n),(731,.arr Int 1 sD d),(732,.growT 222 k 1 (V2 k))]
theorem LY(k:Nat):(V2 k).all (TC.free (k+1000))=true:=by
 rw[List.all_eq_true];intro t c;obtain⟨r,b,rfl⟩:=C54.1 c;have:=C40.1 b;rw[A6 B1];simp[TC.free,I9 (show r+1000≠k+1000 by omega)]
theorem VZ(m:Nat)(g:Nat->List (List Int)):V2 m=Q8 intsC m 0 g:=by
 unfold V2 Q8;refine List.map_congr_left fun r _=>?_;rw[A6 B1,A6 B1]
theorem WA(q:Nat)(g:Nat->List (List Int))(l:List Nat):Obs.forget q (M7 intsC g l)=M7 intsC g l:=by
 unfold Obs.forget M7;rw[C71];exact List.map_congr_left fun r _=>rfl
theorem gap_fgt{K:List Nat}{q:Nat}{g:Nat->List (List Int)}{l:List Nat}:∀j x,O1 K j=false->B4 (M7 intsC g l) j=some x->B4 (Obs.forget q (M7 intsC g l)) j=some x:=fun j x _ h=>by rw[WA];exact h
theorem BX(q:Nat)(c:List Str)(b h:List Int)(n k:Nat)(f:q<1000)(i:4≠q)(j:730≠q)(d:731≠q)(e:732≠q)(g:Nat->List (List Int)):K5 q (YZ c b h n k++M7 intsC g (List.range k))=true:=by
 show K5 q ((4,dB)::(730,x1 c b n)::(731,.arr Int 1 sD h)::(732,.growT 222 k 1 (V2 k))::M7 intsC g (List.range k))=true;simp only[K5,Ob.free,List.all_cons,List.all_nil,TC.free,B40 f,mK f,I9 i,I9 j,I9 d,I9 e,I9 (Ne.symm d),I9 (Ne.symm e)];rfl
theorem A48{P:Program}{nt:Nat}{fr:Fr}{c:List Str}{b l:List Int}{n k:Nat}(B:k<=100000)(p:G5 (k+1000) fr=true) :
  Sees P nt fr ([(4,dB),(730,x1 c b n),(731,.arr Int 1 sD l),(732,.growT 222 (k+1) 1 (V2 k++[TC.mut 734])),(734,.arr (List Int) 1 intsC (List.replicate n [])),(735,.tarr 1 1 [.mut 734])]++M7 intsC (LX n) (List.range k))
   fr (YZ c b l n (k+1)++M7 intsC (LX n) (List.range (k+1))):=by
 refine C20 (j:=734) (k:=k+1000) Z YN B1 p ?_;intro i o h;have d:=I9 (show 731≠k+1000 by omega);have e:=I9 (show 732≠k+1000 by omega);have f:=I9 (show 734≠k+1000 by omega);by_cases s:i=4
 ·subst s;have h:some dB=some o:=h;cases h;exact⟨by omega,dB,by rw[A6 B1];rfl,rfl,rfl⟩
 by_cases v:i=730
 ·subst v;have h:some (x1 c b n)=some o:=h;cases h;exact⟨by omega,x1 c b n,by rw[A6 B1];rfl,by simp[Ob.free,TC.free,d,e],rfl⟩
 by_cases x:i=731
 ·subst x;have h:some (.arr Int 1 sD l)=some o:=h;cases h;exact⟨by omega,_,by rw[A6 B1];rfl,rfl,rfl⟩
 by_cases y:i=732
 ·subst y;have h:some (.growT 222 (k+1) 1 (V2 (k+1)))=some o:=h;cases h;refine⟨by omega,.growT 222 (k+1) 1 (V2 k++[TC.mut 734]),by rw[A6 B1];rfl,?_,?_⟩
  ·simp only[Ob.free,C85,LY,List.all_cons,List.all_nil,TC.free,f];rfl
  ·show _=Ob.growT _ _ _ _;rw[QI]
 have h:B4 ([(4,dB),(730,x1 c b n),(731,.arr Int 1 sD l),(732,.growT 222 (k+1) 1 (V2 (k+1)))]++M7 intsC (LX n) (List.range (k+1))) i=some o:=h;have q:B4 ([(4,dB),(730,x1 c b n),(731,.arr Int 1 sD l),(732,.growT 222 (k+1) 1 (V2 (k+1)))]:Obs) i=none:=by
  rw[B0 (Ne.symm s),B0 (Ne.symm v),B0 (Ne.symm x),B0 (Ne.symm y)];rfl
 rw[Q7 q]at h;obtain⟨r,z,rfl,rfl⟩:=(eR _ _ _).1 h;have z:=C40.1 z;refine⟨by omega,.arr (List Int) 1 intsC (List.replicate n []),?_,rfl,rfl⟩;by_cases A:r=k
 ·subst A;rw[A5 rfl];rfl
 ·rw[A6 B1,Q7 (lO rfl B1)];exact nP (C40.2 B1)
theorem B41(z:Str)(y:List Str)(B:Nat)(bk:y.length<=536870912)(hB:32*B<=4096)(h0:(B6 z).length<=B/\z.length<=4096)(h1:∀b∈y,(B6 b).length<=B/\b.length<=4096) :
  FnOk Tryz.prog 136 [E5 z,Z7 y] (fun rs=>rs=[pTable (E7 z y).1,D2 (E7 z y).2]):=by
 refine FnOk.intro Tryz.func136 G6 Z Z Z Z (zz 2 ?_);refine B8 (E6 4 Z) Z ?_;refine zc 18 (fun D=>?_) fun D=>?_
 ·have hc:=A0 (or_pick.symm.trans D);refine zz 6 ?_;refine E2 (B92 Row 3 rowC 4 1 Z Z) (zz 1 ?_);exact A8 (rs:=[pTable ⟨0,[]⟩,D2 2]) (S0 rfl rfl rfl rfl rfl rfl rfl) (by rw[E7,A5 B1])
 have hc:=A1 (or_pick.symm.trans D);obtain⟨n,hn⟩:∃n,n=y.length:=⟨_,rfl⟩
 have bd:1<=n/\n<=32:=by omega
 obtain⟨G,Y⟩:∃G,G=B6 z:=⟨_,rfl⟩
 obtain⟨I,M⟩:∃I,I=B6 z::y.map B6:=⟨_,rfl⟩
 have ae:I=(z::y).map B6:=by rw[M];rfl
 have ah:I.length=n+1:=by rw[M,hn];simp
 have S:∀f∈I,f.length<=B:=by
  intro f hf;rw[M]at hf;rcases C36.1 hf with rfl | hf
  ·exact h0.1
  ·obtain⟨b,hb,rfl⟩:=C54.1 hf;exact (h1 b hb).1
 have ax:I.flatten.length<=(n+1)*B:=by
  rw[<-ah];clear ae M ah;induction I with
  | nil=>simp
  | cons x r ih =>
   have:=ih fun f hf=>S f (List.mem_cons_of_mem _ hf);have:=S x s6;rw[C56,C32,C34,C62,Nat.one_mul];omega
 have be:n*B<=4096:=Nat.le_trans (C47 _ bd.2) hB;have bj:(n+1)*B<=8192:=by rw[C62,Nat.one_mul];omega
 obtain⟨q,C⟩:∃q,q=J1 I:=⟨_,rfl⟩
 obtain⟨A,F⟩:∃A,A=I.map (R4 q):=⟨_,rfl⟩
 have bi:A.length=n+1:=by rw[F,C55,ah]
 obtain⟨j,K⟩:∃j,j=R4 q G:=⟨_,rfl⟩
 have af:j=A.getD 0 []:=by rw[F,M,K,Y];rfl
 have ag:j.length=G.length:=by rw[K];simp[R4]
 have bh:G.length<=B:=by rw[Y];exact h0.1
 have V:∀x∈A,x.length<=B/\∀v∈x,0<=v/\v<(q.length:Int):=by
  intro x hx;have h2:∀v∈x,0<=v/\v<(q.length:Int):=by rw[C];exact ids_in I x (by rw[<-C,<-F];exact hx)
  rw[F]at hx;obtain⟨f,hf,rfl⟩:=C54.1 hx;exact⟨by rw[R4,C55];exact S f hf,h2⟩
 have ad:A[(0:Int).toNat]?=some j:=by rw[af,C33];show A[0]?=_;rw[C29 B1];rfl
 have ao:=fun p hp=>oM (n:=n) af (fun x hx=>by have:=(V x hx).1;omega) B1 p hp;have am:∀p,LoomOk (fun v=>0<=v/\v<(q.length:Int)) B j.length n (g9 A j.length n p):=fun p=>iP V p;have ba:E7 z y=(⟨n,i6 q G (g9 A j.length n n) (G.length+1)⟩,0):=by
  rw[E7,A6 B1];dsimp only;rw[<-M,<-C,<-F,<-Y,<-hn,<-ag];rw[A6];rintro⟨k,H,ay⟩;refine ay ?_;have h3:=(am n).gaps k;unfold H7;rw[A6 B1];exact lA _ _ _ B (fun x hx=>(h3.2 x hx).1) (by rw[h3.1];simp only[C43];omega)
 rw[ba];refine K4 [(0,H6 z),(1,C0 Str 1 L2 y),(4,.s (.one (.ref 4 0))),(6,B2 n)] [(4,dB)] (by rw[hn];exact Sees.of lf lo) ?_;refine zz 3 ?_;refine B8 (w9 760 _ strsC Z) Z (zz 3 ?_);obtain⟨E,P⟩:∃E,E=z::y:=⟨_,rfl⟩
 have bg:E.length=n+1:=by rw[P,hn];simp
 refine zz 2 ?_;refine A7 (mC (c:=L2) (ys:=[z]) (D1 Z Z Z Z F2) Z Z Z) Z (zz 1 ?_);refine A7 (pE Z Z (.pure _ _ _ _) b8q (B1)) Z (zz 4 ?_);rw[show [z]++y=E by rw[P];rfl];have au:∀b∈E,(B6 b).length<=B/\b.length<=4096:=by
  intro b hb;rw[P]at hb;rcases C36.1 hb with rfl | hb
  ·exact h0
  ·exact h1 b hb
 have av:I=E.map B6:=by rw[ae,P]
 refine C5 (X:=Nat) (fun k=>([(4,.s (.one (.ref 4 0))),(6,B2 n),(7,.s (.one (.buf 760 (List Str) 1 strsC ((E.take k).map B6)))),(29,C0 Str 1 L2 E),(30,B2 E.length),(31,B2 k)],[(4,dB),(760,.spare ((E.take k).map B6).length 1 45)])) (fun k=>k<=E.length) (fun k=>E.length-k) 0 (Nat.zero_le _) (Sees.of lf lo) ?_;intro k H;dsimp only at H ⊢;have bc:((E.take k).map B6).length=k:=by rw[C55,C41];omega
 refine zc 5 (fun D=>?_) fun D=>?_
 ·have Q:k<E.length:=by have:=A0 D;omega
  have hv:E[k]?=some E[k]:=by simp[Q]
  have ar:=au _ (C35 Q);have ac:(E.take (k+1)).map B6=(E.take k).map B6++[B6 E[k]]:=by rw[C48 Q];simp only[C50,C39,C77]
  obtain⟨b,hb⟩:∃b,b=E[k]:=⟨_,rfl⟩
  rw[<-hb]at hv ar ac;have W:=A17 b B1;rw[GA ar.2]at W;dsimp only at W;refine zz 5 ?_;refine A7 (A9 Z (.pure _ _ _ _) Z B1 hv) Z (zz 6 ?_);refine D3 (W) ?_;refine zc 12 (fun D=>?_) fun D=>?_
  ·cases D
  refine zz 4 ?_;refine A7 (C6 (c:=strsC) (ys:=[B6 b]) (D1 Z Z Z Z F2) Z Z Z) Z (B8 (R1 Z Z Z (.pure _ _ _ _) (by (rw[bc];simp only[C34,C43];omega)) Z) Z ?_);refine zz 6 ?_;refine⟨k+1,by omega,by omega,?_⟩;rw[ac];exact Sees.of lf lo
 have hkl:k=E.length:=by have:=A1 D;omega
 rw[hkl,C44,<-av];have hI:=LQ I B1 B1;have hN:=BW I B1 B1;rw[<-C,<-F]at hI;rw[<-C]at hN;refine zz 4 ?_;refine D3 (hI) (zz 2 ?_);refine E2 (fr':=[(4,.s (.one (.ref 4 0))),(6,B2 n),(7,C0 (List Str) 1 strsC I),(12,C0 (List Int) 1 intsC A)]) (ob':=[(4,dB)]) (Sees.of lf lo) (k2 (Q9 [13,9] [[],[9],[13,9]] [(9,([731],[])),(13,([730],[]))] [(0,[]),(1,[]),(2,[]),(3,[]),(4,[]),(5,[]),(6,[]),(7,[]),(8,[]),(9,[]),(10,[]),(11,[]),(12,[9]),(13,[9]),(14,[13,9])] [(0,[9]),(1,[9]),(2,[9]),(3,[9]),(4,[9]),(10,[9]),(11,[9])] F6 F6 (D6 Z Z F6 Z Z (B3 Z Z) (D6 Z Z F6 Z Z (I4 (hN) Z Z) (D6 Z Z F6 Z Z (B3 Z Z) (D6 Z Z F6 Z Z (A9 Z (.pure _ _ _ _) Z B1 ad) (D6 Z Z F6 Z Z (L3 Z Z) (D6 Z Z F6 Z Z (B3 Z Z) (D6 Z Z F6 Z Z (A9 Z (.pure _ _ _ _) Z B1 ad) (D6 Z Z F6 Z Z (L3 Z Z) (D6 Z Z F6 Z Z (y9 Z (.pure _ _ _ _)) (Z9 Z Z F6 Z Z (zJ (fun R J H=>j5 731 Int sD 0 (W9 J Z) (W9 J Z) B1 B1 (fun _=>by first | exact⟨⟨rfl,rfl⟩,trivial⟩ | exact⟨F0 _ _ _,trivial⟩ | exact⟨F0 _ _ _,⟨rfl,rfl⟩,F0 _ _ _,trivial⟩ | exact⟨⟨rfl,rfl⟩,⟨rfl,rfl⟩,trivial⟩) (by rw[H];rfl))) Z ?_))))))))))));refine D6 Z Z F6 Z Z (B3 Z Z) (D6 Z Z F6 Z Z (Y9 Z) (D6 Z Z F6 Z Z (Y9 Z) (Z9 Z Z F6 Z Z (zJ (fun R J H=>P3 730 (W9 J Z) Z (by rw[H];rfl))) Z ?_)));refine D6 Z Z F6 Z Z (C1 Z Z) ?_;refine sQ F6 rfl ?_ ?_
 ·refine L6 Z Z F6 Z Z (B3 Z Z) (L6 Z Z F6 Z Z (I4 (hN) Z Z) (L6 Z Z F6 Z Z (B3 Z Z) (L6 Z Z F6 Z Z (A9 Z (.pure _ _ _ _) Z B1 ad) (L6 Z Z F6 Z Z (L3 Z Z) (L6 Z Z F6 Z Z (B3 Z Z) (L6 Z Z F6 Z Z (Y9 Z) ?_))))));exact pC
 rw[C31];refine zz 2 ?_;refine E2 (C06 732 (List (List Int)) 1 intssC 222 (kb:=730) (o:=3) Z Z Z) (E2 (C27 732 Z) (zz 2 ?_));refine A7 (A9 Z (.pure _ _ _ _) Z B1 ad) Z (zz 6 ?_);refine C5 (X:=Nat) (fun k=>([(4,.s (.one (.ref 4 0))),(6,B2 n),(12,C0 (List Int) 1 intsC A),(13,.s (.one (.ref 730 0))),(69,B2 ((j.length:Int)+1)),(70,B2 k)],YZ q j (List.replicate j.length 0) n k++M7 intsC (LX n) (List.range k))) (fun k=>k<=j.length+1) (fun k=>j.length+1-k) 0 (Nat.zero_le _) (Sees.of lf lo) ?_;intro k H;dsimp only at H ⊢;refine zc 5 (fun D=>?_) fun D=>?_
 ·have Q:k<j.length+1:=by have:=A0 D;omega
  have ai:=BX 734 q j (List.replicate j.length 0) n k B1 B1 B1 B1 B1 (LX n);have ab:K5 735 ((734,.arr (List Int) 1 intsC (List.replicate n []))::(YZ q j (List.replicate j.length 0) n k++M7 intsC (LX n) (List.range k)))=true:=by
   have:=BX 735 q j (List.replicate j.length 0) n k B1 B1 B1 B1 B1 (LX n);rw[K5,this];rfl
  have aq:(V2 k++[TC.mut 734]).map (TC.forget 732)=V2 k++[TC.mut 734]:=aN (by rw[C85,mK B1];rfl);refine zz 3 ?_;refine Q9 [11,8,7,6] [[],[6],[7,6],[8,7,6],[11,8,7,6]] [(6,([734],[])),(7,([735],[])),(8,([732],[76])),(11,([],[]))] [(0,[]),(1,[]),(2,[]),(3,[]),(4,[]),(5,[]),(6,[]),(7,[6]),(8,[7,6]),(9,[8,7,6]),(10,[8,7,6]),(11,[8,7,6])] [(0,[6]),(0,[7,6]),(0,[8,7,6]),(1,[6]),(1,[7,6]),(2,[6]),(2,[7,6]),(3,[6]),(3,[7,6]),(4,[6]),(4,[7,6])] F6 F6 (D6 Z Z F6 Z Z (B3 Z Z) (D6 Z Z F6 Z Z (B3 Z Z) (D6 Z Z F6 Z Z (E8 Z) (D6 Z Z F6 Z Z (B5 Z) (D6 Z Z F6 Z Z (C2 Z Z Z) (D6 Z Z F6 Z Z (B3 Z Z) (Z9 Z Z F6 Z Z (zJ (fun R J H=>j5 734 (List Int) intsC [] (W9 J Z) (W9 J Z) B1 B1 (fun _=>by first | exact⟨⟨rfl,rfl⟩,trivial⟩ | exact⟨F0 _ _ _,trivial⟩ | exact⟨F0 _ _ _,⟨rfl,rfl⟩,F0 _ _ _,trivial⟩ | exact⟨⟨rfl,rfl⟩,⟨rfl,rfl⟩,trivial⟩) (by rw[H];exact ai))) Z ?_)))))));refine Z9 Z Z F6 Z Z (zJ (fun R J H=>B19 735 (W9 J Z) Z Z Z Z (by rw[H];exact ab))) Z ?_;refine Z9 Z Z F6 Z Z (jJ (fun R J=>eD (W9 J Z) Z (W9 J Z) Z B1 Z)) Z (D6 Z Z F6 Z Z (E8 Z) (D6 Z Z F6 Z Z (B5 Z) (Z9 Z Z F6 Z Z (sR (fun R J=>H0 TySz.out (W9 J Z) Z (W9 J Z) Z Z Z)) Z ?_)));refine sQ F6 rfl ?_ ?_
  ·refine L6 Z Z F6 Z Z (B3 Z Z) (L6 Z Z F6 Z Z (B3 Z Z) (L6 Z Z F6 Z Z (B3 Z Z) (L6 Z Z F6 Z Z (B3 Z Z) (L6 Z Z F6 Z Z (B3 Z Z) (L6 Z Z F6 Z Z (E8 Z) (L6 Z Z F6 Z Z (E8 Z) (L6 Z Z F6 Z Z (B5 Z) (L6 Z Z F6 Z Z (B5 Z) (L6 Z Z F6 Z Z (C2 Z Z Z) (L6 Z Z F6 Z Z (C2 Z Z Z) ?_))))))))));exact pC
  refine K4 [(4,.s (.one (.ref 4 0))),(6,B2 n),(12,C0 (List Int) 1 intsC A),(13,.s (.one (.ref 730 0))),(69,B2 ((j.length:Int)+1)),(70,B2 k)] ([(4,dB),(730,x1 q j n),(731,.arr Int 1 sD (List.replicate j.length 0)),(732,.growT 222 (k+1) 1 (V2 k++[TC.mut 734])),(734,.arr (List Int) 1 intsC (List.replicate n [])),(735,.tarr 1 1 [.mut 734])]++M7 intsC (LX n) (List.range k)) (C00 lf (r9 (L:=[(4,_),(730,_),(731,_),(732,_),(734,_),(735,_)]) ⟨rfl,rfl,rfl,congrArg (fun ts=>some (Ob.growT 222 (k+1) 1 ts)) aq,rfl,rfl,trivial⟩ (by repeat (first | exact gap_fgt | refine sS rfl ?_)))) ?_;refine E2 (A48 B1 (by simp only[G5,SV.free,S1.free,TC.free,I9 (show 4≠k+1000 by omega),I9 (show 730≠k+1000 by omega)];rfl)) ?_;skip;refine zz 4 ?_;refine⟨k+1,by omega,by omega,?_⟩;exact C00 lf (fun _ _ h=>h)
 have az:k=j.length+1:=by have:=A1 D;omega
 rw[az];refine K4 [(4,.s (.one (.ref 4 0))),(6,B2 n),(12,C0 (List Int) 1 intsC A),(13,.s (.one (.ref 730 0)))] (mJ q j (List.replicate j.length 0) (LX n) n (j.length+1)) (C00 lf (fun _ _ h=>h)) (zz 8 ?_);obtain⟨s,hs⟩:∃s:Nat->Loom,s=fun p=>cJ A j.length n p:=⟨_,rfl⟩
 have W:∀p,p<=32->s p=g9 A j.length n p/\(s p).1.length=j.length/\∀k,((s p).2 k).length=n:=fun p hp=>by
  obtain⟨q1,_,q3⟩:=ao p hp;rw[hs];dsimp only;refine⟨q1,q3,fun k=>?_⟩;rw[q1];exact ((am p).gaps k).1
 refine C5 (X:=Nat) (fun p=>([(4,.s (.one (.ref 4 0))),(6,B2 n),(12,C0 (List Int) 1 intsC A),(13,.s (.one (.ref 730 0))),(84,B2 n),(85,B2 p)],mJ q j (s p).1 (s p).2 n (j.length+1))) (fun p=>p<=n) (fun p=>n-p) 0 (Nat.zero_le _) (by rw[hs];exact C00 lf (fun _ _ h=>h)) ?_;intro p hp;dsimp only at hp ⊢;obtain⟨p1,p2,p3⟩:=W p B1;refine zc 5 (fun D=>?_) fun D=>?_
 ·have Q:p<n:=by have:=A0 D;omega
  have ap:A[((p:Int)+1).toNat]?=some (A.getD (p+1) []):=by rw[show ((p:Int)+1).toNat=p+1 by omega,C33,C29 B1];rfl
  have S:=(V _ (C53 ap)).1;have ac:s (p+1)=dM A (s p) p:=by rw[hs];exact nK A j.length n p
  obtain⟨O,U⟩:∃f,f=A.getD (p+1) []:=⟨_,rfl⟩
  have aw:s (p+1)=((Q0 O j).foldl (O9 p) (s p).1,(Q0 O j).foldl (R6 p O) (s p).2):=by rw[ac,U,af];rfl
  rw[<-U]at ap S;refine zz 15 ?_;refine A7 (A9 Z (.pure _ _ _ _) Z B1 ap) Z (zz 1 ?_);refine S9 (B39 q j O (s p).1 (s p).2 n p B1 B1 p2 B1 Q p3) Z Z Z ?_;rintro _ _ ⟨rfl,rfl⟩;refine zc 7 (fun D=>?_) fun D=>?_
  ·cases D
  refine zz 5 ?_;refine⟨p+1,by omega,by omega,?_⟩;rw[aw];exact C00 lf (fun _ _ h=>h)
 have hpn:p=n:=by have:=A1 D;omega
 subst hpn;obtain⟨ms,al⟩:∃ms,ms=(s p).1:=⟨_,rfl⟩
 obtain⟨g,hg⟩:∃g,g=(s p).2:=⟨_,rfl⟩
 have an:g9 A j.length p p=(ms,g):=by rw[<-p1,al,hg]
 rw[<-al,<-hg];rw[<-al]at p2;have aj:=fun k=>(am p).gaps k;rw[an]at aj ⊢;dsimp only at aj;refine K4 [(4,.s (.one (.ref 4 0))),(6,B2 p),(13,.s (.one (.ref 730 0)))] ([(4,dB),(730,x1 q j p),(731,.arr Int 1 sD ms)]++((732,.growT 222 (j.length+1) 1 (Q8 intsC (j.length+1) 0 g))::M7 intsC g (List.range (j.length+1)))) (by rw[<-VZ];exact C00 lf (fun _ _ h=>h)) ?_;refine E2 (C10 B1 rfl rfl (fun r _=>?_) (fun r _=>?_)) ?_
 ·simp only[G5,SV.free,S1.free,TC.free,I9 (show 4≠r+1000 by omega),I9 (show 730≠r+1000 by omega)];rfl
 ·simp only[nQ,Ob.free,List.all_cons,List.all_nil,TC.free,I9 (show 731≠r+1000 by omega),I9 (show 732≠r+1000 by omega)];rfl
 obtain⟨gs,ak⟩:∃gs,gs=(List.range (j.length+1)).map g:=⟨_,rfl⟩
 rw[<-ak];refine E2 (Sees.freeze (k:=731) Z) (E2 (Sees.freezeG (k:=732) Z Z) (K4 [(4,.s (.one (.ref 4 0))),(6,B2 p),(13,.s (.one (.ref 730 0)))] [(4,dB),(730,.box [.p (.list Str 1 L2 q),.p (.list Int 1 E3 j),.p (.list Int 1 sD ms),.p (.list (List (List Int)) 1 intssC gs),.p (.v (.int .i64 p)),.p (.v (.slice none 0 0))])] (Sees.of lf lo) (E2 (B95 733 Row 3 rowC 89 (kb:=730) (o:=5) Z Z Z) (K4 [(4,.s (.one (.ref 4 0))),(6,B2 p),(13,.s (.one (.ref 730 0)))] (fD q j ms gs p []) (Sees.of lf lo) ?_))));have bf:∀k,k<G.length->0<=j.getD k 0/\q[(j.getD k 0).toNat]?=some (G.getD k []):=by
  intro k H;have hm:G[k]∈q:=by rw[C];exact mO I _ G (by rw[M,Y];simp) (C35 H)
  have e1:j.getD k 0=J0 q G[k] 0:=by rw[K,C33];unfold R4;rw[C63,C29 H];rfl
  have e2:G.getD k []=G[k]:=by rw[C33,C29 H];rfl
  have e3:=jV q G[k] 0 (Int.le_refl _) hm;have e4:=VY q G[k] 0 (Int.le_refl _) hm;rw[e1,e2];rw[Int.sub_zero]at e4;exact⟨e3.1,e4⟩
 have hW:=fun gf=>VX (gf:=gf) q G j ms g p B B1 ag B1 B1 be aj bf;rw[ag]at ak;rw[<-ak]at hW;refine zz 5 ?_;refine S9 (hW _) Z Z Z ?_;rintro _ _ ⟨rfl,rfl⟩;refine zc 7 (fun D=>?_) fun D=>?_
 ·cases D
 refine zz 11 ?_;exact A8 (rs:=[pTable ⟨p,i6 q G (ms,g) (G.length+1)⟩,D2 0]) (S0 rfl rfl rfl rfl rfl rfl rfl) rfl
abbrev bS(b:Bool):S1:=.one (.p (.v (.bool b)))
abbrev iS(i:Int):S1:=.one (.p (.v (.int .i64 i)))
theorem A49(r:Row):FnOk Tryz.prog 305 [pRow r] (fun a=>a=[D5 (cI r)]):=by
 refine FnOk.intro Tryz.func305 G6 Z Z Z Z (zz 2 ?_);refine B8 (P3 1 Z Z Z) Z (zz 15 ?_);refine A8 (F7 Z Z Z) ?_;unfold cI;cases r.Lost<;>simp
theorem obs_ff{q:Nat}{x y:Ob}{ob:Obs}(a:Obs.forget q ob=ob):∀k o,B4 ((q,x)::ob) k=some o->B4 ((q,x)::Obs.forget q ((q,y)::ob)) k=some o:=by
 intro k o h;by_cases e:q=k
 ·subst e;rw[C4]at h ⊢;exact h
 ·rw[B0 e]at h ⊢;show B4 ((q,_)::Obs.forget q ob) k=some o;rw[B0 e,a];exact h
def Answers(P:Program)(f:FuncId)(c:Nat)(a:Ob)(l:List Bool):Prop :=
 ∀(gf:Fr) (ob:Obs),B4 ob c=some a->∀i:Nat,i<l.length->AL.Met P f [iS i,.one (.ref c 0)] gf ob [] (fun b ob'=>b=[bS (l.getD i false)]/\ob'=ob)
theorem BY{gf:Fr}{ob:Obs}(l:List Bool)(f:FuncId)(c:Nat)(S:Ob)(hl:l.length<=536870912)(O:K5 750 ob=true)(y:750≠c)(V:B4 ob c=some S)(hf:Answers Tryz.prog f c S l) :
  AL.Met Tryz.prog 208 [iS l.length,.one (.clo f [] [(c,0)])] gf ob [750] (fun rs ob'=>rs=[.one (.mut 750)]/\ob'=(750,.grow 155 Span 2 spanC (W6 l))::ob):=by
 obtain⟨E,P,_⟩:=Q6 O;obtain⟨W,T⟩:∃W,W=W6 l:=⟨_,rfl⟩
 rw[<-T];refine AL.Met.introH Tryz.func208 G6 rfl rfl rfl (fun G=>?_);refine zz 6 ?_;refine B8 (OL 750 _ spanC P Z) Z (zz 1 ?_);rw[E];refine zz 7 ?_;refine C5 (X:=Nat×List Span) (fun x=>([(1,.s (.one (.clo f [] [(c,0)]))),(5,.s (.one (.mut 750))),(7,B2 l.length),(8,B2 x.1)]++C8 [750] gf,(750,.grow 155 Span 2 spanC x.2)::ob)) (fun x=>x.1<=l.length/\rR x.1 x.2/\(yL l x.1=true->x.2≠[])/\W=nI (l.drop x.1) x.1 (yL l x.1) x.2) (fun x=>l.length-x.1) (0,[]) ⟨Nat.zero_le _,⟨Nat.le_refl _,(fun s hs=>by cases hs)⟩,(fun h=>by cases h),T⟩ ?_ ?_
 ·exact B91 ⟨leE rfl (by simp[SV.forget,S1.forget,TC.forget,jA,I9 (Ne.symm y)]),jH rfl,jH rfl,jH rfl,trivial⟩ (G8 G) cQ (fun _ _ h=>h)
 rintro⟨i,d⟩ ⟨hi,F,B,A⟩;dsimp only at hi F B A ⊢;have M:B4 ((750,.grow 155 Span 2 spanC d)::ob) c=some S:=(B0 y _ _).trans V;have H:=fun gf (i:Nat) (h:i<l.length)=>hf gf _ M i h;refine zc 5 (fun v=>?_) fun v=>?_;rotate_left
 ·have Q:i=l.length:=by have:=A1 v;omega
  rw[Q,C51 (Nat.le_refl _)]at A;have A:W=d:=A;refine zz 7 ?_;rw[A];exact F1 (O3 rfl rfl) rT (fun _ _ h=>h) ⟨rfl,rfl⟩
 have J:i<l.length:=by have:=A0 v;omega
 rw[B03 J]at A;have hpn:yL l (i+1)=l.getD i false:=by unfold yL;rw[A6 B1];rfl
 have q:=ZY (l.getD i false) (yL l i) F;rw[<-hpn]at A q;have z:=fun gf=>H gf i J;have U:=F.1;have D:yL l i=if i=0 then false else l.getD (i-1) false:=rfl
 rw[<-hpn]at z;obtain⟨b,hb⟩:∃b,b=yL l (i+1):=⟨_,rfl⟩
 rw[<-hb]at A q z;refine zz 10 ?_;cases b with
 | false =>
  rw[A6 G6]at A q;refine zz 3 ?_;refine eW (z _) Z Z Z Z ?_;rintro _ _ ⟨rfl,rfl⟩;refine zc 3 (fun v=>?_) fun v=>?_
  ·refine zz 5 ?_;exact⟨(i+1,d),⟨by dsimp only;omega,q,(fun h=>by rw[<-hb]at h;cases h),by rw[<-hb];exact A⟩,by dsimp only;omega,B91 lf (G8 G) rT (fun _ _ h=>h)⟩
  ·cases v
 | true =>
  rw[A5 rfl]at A q;refine zz 3 ?_;refine eW (z _) Z Z Z Z ?_;rintro _ _ ⟨rfl,rfl⟩;refine zc 3 (fun v=>?_) fun v=>?_
  ·cases v
  refine k2 ?_;by_cases I:i=0
  ·subst I;rw[D,A5 rfl,A6 G6,cK]at A;rw[D,A5 rfl,A6 G6,cK]at q;have C:decide (((0:Nat):Int)>0)=false:=by decide
   refine zz 8 ?_;refine A7 (eT Z (C) Z) Z ?_;refine zc 2 (fun v=>?_) fun v=>?_
   ·cases v
   skip;refine zz 6 ?_;refine A7 (C6 (c:=spanC) (ys:=[⟨((0:Nat):Int),((0:Nat):Int)+1⟩]) (D1 Z Z Z Z F2) Z Z Z) Z (B8 (x8 Z Z Z (.pure _ _ _ _) b8q Z) Z (zz 6 ?_));refine⟨(0+1,d++[⟨((0:Nat):Int),((0:Nat):Int)+1⟩]),⟨by dsimp only;omega,q,(fun _=>by simp),by rw[<-hb];exact A⟩,by dsimp only;omega,?_⟩;exact B91 ⟨leE rfl (by simp[SV.forget,S1.forget,TC.forget,jA,I9 (Ne.symm y)]),jH rfl,jH rfl,jH rfl,trivial⟩ (G8 G) b4w (obs_ff E)
  rw[A6 I]at D;have C:decide ((i:Int)>0)=true:=A3 B1;have k:=fun gf=>H gf (i-1) B1;rw[<-D,show ((i-1:Nat):Int)=(i:Int)-1 by omega]at k;cases K:yL l i with
  | false =>
   rw[K]at k;rw[K,A6 G6,cK]at A q;refine zz 4 ?_;refine j4 Z Z Z C (zz 1 ?_);refine j4 Z Z Z C (zz 1 ?_);refine j4 Z Z Z C (zz 1 ?_);refine j4 Z Z Z C (eW (k _) Z Z Z Z ?_);rintro _ _ ⟨rfl,rfl⟩;refine zc 3 (fun v=>?_) fun v=>?_
   ·rw[A5 C]at v;cases v
   skip;refine zz 6 ?_;refine A7 (C6 (c:=spanC) (ys:=[⟨(i:Int),(i:Int)+1⟩]) (D1 Z Z Z Z F2) Z Z Z) Z (B8 (x8 Z Z Z (.pure _ _ _ _) b8q Z) Z (zz 6 ?_));refine⟨(i+1,d++[⟨(i:Int),(i:Int)+1⟩]),⟨by dsimp only;omega,q,(fun _=>by simp),by rw[<-hb];exact A⟩,by dsimp only;omega,?_⟩;exact B91 ⟨leE rfl (by simp[SV.forget,S1.forget,TC.forget,jA,I9 (Ne.symm y)]),jH rfl,jH rfl,jH rfl,trivial⟩ (G8 G) b4w (obs_ff E)
  | true =>
   rw[K]at k;rw[K,A5 rfl]at A q;have B:=B K;obtain⟨s,hs⟩:∃s,d.getLast?=some s:=⟨_,List.getLast?_eq_some_getLast B⟩
   have ab:=List.length_pos_iff.2 B;have R:d[((d.length:Int)-1).toNat]?=some s:=by
    rw[show ((d.length:Int)-1).toNat=d.length-1 by omega,<-List.getLast?_eq_getElem?];exact hs
   have L:d.set (((d.length:Int)-1).toNat) ⟨s.From,(i:Int)+1⟩=dL d ((i:Int)+1):=by
    rw[show ((d.length:Int)-1).toNat=d.length-1 by omega];unfold dL;rw[hs];dsimp only;have Y:=List.dropLast_concat_getLast B
    conv=>lhs;rw[<-Y]
    rw[List.set_append_right _ _ b3x];simp
   refine zz 4 ?_;refine j4 Z Z Z C (zz 1 ?_);refine j4 Z Z Z C (zz 1 ?_);refine j4 Z Z Z C (zz 1 ?_);refine j4 Z Z Z C (eW (k _) Z Z Z Z ?_);rintro _ _ ⟨rfl,rfl⟩;refine zc 3 (fun v=>?_) fun v=>?_;rotate_left
   ·rw[A5 C]at v;cases v
   skip;refine zz 7 ?_;refine A7 (U2 Z Z Z B1 B1) Z (zz 1 ?_);refine O2 (iJ ((⟨s.From,(i:Int)+1⟩:Span)) TySz.out Z Z R Z Z Z Z (fun _ _ _ h=>eS h) (by intro j h1 h2;rcases j with _ | _ | _ | _ | _ | _ | _ | j<;>first | rfl | omega)) ?_;refine zz 1 ?_;rw[L];refine zz 4 ?_;refine⟨(i+1,dL d ((i:Int)+1)),⟨by dsimp only;omega,q,(fun _=>?_),by rw[<-hb];exact A⟩,by dsimp only;omega,?_⟩
   ·unfold dL;rw[hs];simp
   ·exact B91 lf (G8 G) rT YY
theorem WB{gf:Fr}{ob:Obs}(t:Table)(i:Nat)(j:i<t.Rows.length)(g:B4 ob 1=some (.box (pTable t).s1.cells)) :
  AL.Met Tryz.prog 304 [iS i,.one (.ref 1 0)] gf ob [] (fun m ob'=>m=[bS (!cI t.Rows[i])]/\ob'=ob):=by
 have d:t.Rows[((i:Nat):Int).toNat]?=some t.Rows[i]:=by rw[C31];simp[j]
 obtain⟨r,k⟩:∃r,r=t.Rows[i]:=⟨_,rfl⟩
 rw[<-k]at d ⊢;refine AL.Met.intro Tryz.func304 G6 Z Z Z (zz 7 ?_);refine A7 (C2 Z g Z) Z (zz 1 ?_);refine A7 (A9 Z (.pure _ _ _ _) Z B1 d) Z (zz 1 ?_);refine D3 (A49 r) (zz 4 ?_);exact F1 (O3 rfl rfl) cQ (fun _ _ h=>h) ⟨rfl,rfl⟩
theorem B42(t:Table)(n:t.Rows.length<=536870912):FnOk Tryz.prog 269 [pTable t] (fun j=>j=[pSpans (W6 (t.Rows.map fun r=>!cI r))]):=by
 obtain⟨l,a⟩:∃l,l=t.Rows.map fun r=>!cI r:=⟨_,rfl⟩
 have d:l.length=t.Rows.length:=by rw[a,C55]
 have ha:Answers Tryz.prog 304 1 (.box (pTable t).s1.cells) l:=fun gf ob h i m=>by
  have g:=WB (gf:=gf) (ob:=ob) t i B1 h;have e:l.getD i false=!cI (t.Rows[i]'B1):=by rw[C33];simp only[a,C63,C29 (show i<t.Rows.length by omega)];rfl
  rw[e];exact g
 have f:=fun gf=>BY (gf:=gf) (ob:=[(1,.box (pTable t).s1.cells)]) l 304 1 (.box (pTable t).s1.cells) B1 rfl B1 rfl ha;rw[d]at f;rw[<-a];refine FnOk.intro Tryz.func269 G6 Z Z Z Z (zz 2 ?_);refine B8 (P3 1 Z Z Z) Z (zz 8 ?_);refine S9 (f _) Z Z Z ?_;rintro _ _ ⟨rfl,rfl⟩;refine zz 2 ?_;refine E2 (Sees.freezeG (k:=750) Z Z) (yR ?_);exact A8 (F7 rfl rfl rfl) rfl
theorem A50(b:List Row)(n:Nat)(o:1<=n/\n<=32)(w:b.length<=536870912):FnOk Tryz.prog 270 [pRows b,D2 n] (fun v=>v=[D5 (decide (yK b=((2 ^ n-1:Nat):Int)))]):=by
 have h:=B84 n o;obtain⟨X,l⟩:∃X:Int,X=((2 ^ n-1:Nat):Int):=⟨_,rfl⟩
 rw[<-l]at h ⊢;refine FnOk.intro Tryz.func270 G6 Z Z Z Z (zz 16 ?_);refine C5 (X:=Nat) (fun i=>([(1,B2 n),(5,I6 (.int .u32 (yK (b.take i)))),(8,C0 Row 3 rowC b),(9,B2 b.length),(10,B2 i)],[])) (fun i=>i<=b.length) (fun i=>b.length-i) 0 (Nat.zero_le _) (Sees.of lf lo) ?_;intro i m;dsimp only at m ⊢;refine zc 5 (fun g=>?_) fun g=>?_
 ·have c:i<b.length:=by have:=A0 g;omega
  have j:b[i]?=some b[i]:=by simp[c]
  have d:yK (b.take (i+1))=L1 (yK (b.take i)) b[i].Marks:=by unfold yK;rw[C48 c,C78];rfl
  obtain⟨r,q⟩:∃r,r=b[i]:=⟨_,rfl⟩
  rw[<-q]at j d;refine zz 5 ?_;refine A7 (A9 Z (.pure _ _ _ _) Z B1 j) Z (zz 1 ?_);refine B8 (E6 757 Z) Z (zz 13 ?_);refine⟨i+1,by omega,by omega,?_⟩;rw[d];exact Sees.of lf lo
 ·have f:i=b.length:=by have:=A1 g;omega
  rw[f,C44];refine zz 10 ?_;rw[h];refine zz 1 ?_;exact A8 (F7 rfl rfl rfl) rfl
theorem QJ{t:Table}(b:K1 t.Rows)(h:J2 t=0):∃n:Nat,t.Parents=n/\(1<=n/\n<=32)/\∀r∈t.Rows,0<=r.Marks/\r.Marks<((2 ^ n:Nat):Int):=by
 obtain⟨c,d⟩:1<=t.Parents/\t.Parents<=32:=by
  unfold J2 at h;split at h
  ·cases h
  ·omega
 refine⟨t.Parents.toNat,by omega,by omega,B06 b ?_⟩;unfold J2 at h;rw[A6 B1]at h;cases a:R0 t.Rows t.Parents.toNat
 ·rw[A5 a]at h;cases h
 ·rfl
theorem fE{t:Table}{d:Bool}(h:J2 t=0):F5 t d=((W6 (t.Rows.map fun r=>!cI r)).filter fun s=>!d||gN t s,0):=by
 have a:bK t=(W6 (t.Rows.map fun r=>!cI r),0):=by unfold bK;rw[A6 (by rw[h];decide)]
 unfold F5;rw[a];exact A6 (fun e=>e rfl)
theorem LZ{α:Type}(L:List α)(p:α->Bool)(k:Nat)(h:k<L.length):(L.take (k+1)).filter p=(L.take k).filter p++if p L[k]=true then [L[k]] else []:=by
 rw[C48 h,C83]
 congr 1
 rw[C80];split<;>rfl
theorem yX(t:Table)(d:Bool)(hr:K1 t.Rows)(hl:t.Rows.length<=134217728)(h:J2 t=0):FnOk Tryz.prog 207 [pTable t,D5 (!d)] (fun rs=>rs=[pSpans (F5 t d).1]):=by
 obtain⟨n,P,D,hm⟩:=QJ hr h;rw[fE h];dsimp only;obtain⟨p,Q⟩:∃p:Span->Bool,p=fun s=>!d||gN t s:=⟨_,rfl⟩
 rw[<-Q];have w:=EJ (t.Rows.map fun r=>!cI r);rw[C55]at w;have N:=B42 t B1;have j:∀s∈W6 (t.Rows.map fun r=>!cI r),s.From<=s.To:=B81 _;obtain⟨L,U⟩:∃L,L=W6 (t.Rows.map fun r=>!cI r):=⟨_,rfl⟩
 rw[<-U]at w N j ⊢;obtain⟨O,C⟩:=w;refine FnOk.intro Tryz.func207 G6 Z Z Z Z (zz 2 ?_);refine B8 (P3 2 Z Z Z) Z (zz 4 ?_);refine B8 (w9 752 _ spanC Z) Z (zz 5 ?_);refine D3 (N) (zz 4 ?_);refine C5 (X:=Nat) (fun k=>([(1,Q4 (!d)),(2,.s (.one (.ref 2 0))),(5,.s (.one (.buf 752 Span 2 spanC ((L.take k).filter p)))),(9,C0 Span 2 spanC L),(10,B2 L.length),(11,B2 k)],[(2,.box (pTable t).s1.cells),(752,.spare ((L.take k).filter p).length 2 155)])) (fun k=>k<=L.length) (fun k=>L.length-k) 0 (Nat.zero_le _) (Sees.of lf lo) ?_;intro k Y;dsimp only at Y ⊢;have W:=List.length_filter_le p (L.take k);have ab:(L.take k).length=k:=by rw[C41];omega
 refine zc 5 (fun G=>?_) fun G=>?_;rotate_left
 ·have hkl:k=L.length:=by have:=A1 G;omega
  rw[hkl,C44];refine zz 7 ?_;exact A8 (F7 rfl rfl rfl) rfl
 have q:k<L.length:=by have:=A0 G;omega
 have m:=LZ L p k q;have M:L[k]?=some L[k]:=by simp[q]
 have hs:=C _ (C35 q);have K:=j _ (C35 q);obtain⟨s,J⟩:∃s,s=L[k]:=⟨_,rfl⟩
 rw[<-J]at m M hs K;obtain⟨F,S⟩:∃F:Nat,s.From=F:=⟨s.From.toNat,by omega⟩
 obtain⟨T,V⟩:∃T:Nat,s.To=T:=⟨s.To.toNat,by omega⟩
 have z:s=⟨F,T⟩:=by rw[<-S,<-V]
 have H:=B83 P D hm F T z;have E:p s=(!d||gN t s):=by rw[Q]
 rw[z]at M;have R:((t.Rows.drop F).take (T-F)).length<=t.Rows.length:=by rw[C41,C45];omega
 have A:=A50 ((t.Rows.drop F).take (T-F)) n D B1;rw[H,<-P]at A;refine zz 5 ?_;refine A7 (A9 Z (.pure _ _ _ _) Z B1 M) Z (zz 1 ?_);refine B8 (E6 757 Z) Z (zz 2 ?_);refine K4 [(1,Q4 (!d)),(2,.s (.one (.ref 2 0))),(5,.s (.one (.buf 752 Span 2 spanC ((L.take k).filter p)))),(7,.s (.one (.ref 757 0))),(9,C0 Span 2 spanC L),(10,B2 L.length),(11,B2 k)] [(2,.box (pTable t).s1.cells),(752,.spare ((L.take k).filter p).length 2 155),(757,.box [.p (.v (.int .i64 F)),.p (.v (.int .i64 T))])] (Sees.of lf lo) (zz 10 ?_);refine J5 Z Z (fun B=>by have I:=B;(try simp at I);rw[B];exact x6 Z (.pure _ _ _ _) Z Z B1 B1 B1) Z Z ?_;refine zz 2 ?_;refine J5 Z Z (fun B=>by have I:=B;(try simp at I);rw[B];exact I4 (A) Z Z) Z Z ?_;refine zc 2 (fun G=>?_) fun G=>?_
 ·have y:p s=true:=by rw[E];cases d<;>simp_all
  rw[A5 y]at m;skip;refine zz 3 ?_;refine A7 (C6 (c:=spanC) (ys:=[⟨F,T⟩]) (D1 Z Z Z Z F2) Z Z Z) Z (zz 7 ?_);refine⟨k+1,by omega,by omega,?_⟩;rw[m,z];exact Sees.of lf lo
 ·have y:¬p s=true:=by rw[E];cases d<;>simp_all
  rw[A6 y,C60]at m;refine zz 5 ?_;refine⟨k+1,by omega,by omega,?_⟩;rw[m];exact Sees.of lf lo
theorem QK{gf:Fr}{ob:Obs}(l:List Bool)(i:Nat)(g:i<l.length)(d:B4 ob 9=some (.box [.p (.list Bool 1 l4 l)])) :
  AL.Met Tryz.prog 209 [iS i,.one (.ref 9 0)] gf ob [] (fun j ob'=>j=[bS (l.getD i false)]/\ob'=ob):=by
 have c:l[((i:Nat):Int).toNat]?=some (l.getD i false):=by rw[C31];simp[g]
 obtain⟨b,hb⟩:∃b,b=l.getD i false:=⟨_,rfl⟩
 rw[<-hb]at c ⊢;refine AL.Met.intro Tryz.func209 G6 Z Z Z (zz 6 ?_);refine A7 (C2 Z d Z) Z (zz 1 ?_);refine A7 (A9 Z (.pure _ _ _ _) Z B1 c) Z (zz 4 ?_);exact F1 (O3 rfl rfl) cQ (fun _ _ h=>h) ⟨rfl,rfl⟩
theorem B43{t:Table}{b:Int}{d:Bool}(h:J2 t=0)(c:¬(b<0\/1048576<b)):K9 t b d=(W6 ((List.range t.Rows.length).map (R9 (F5 t d).1 b)),0):=by
 unfold K9;rw[A6 (by rw[fE h];exact fun e=>e rfl),A6 c]
theorem B44{t:Table}{a:Int}{d:Bool}(h:J2 t≠0):K9 t a d=([],J2 t):=by
 have c:bK t=([],J2 t):=by unfold bK;rw[A5 h]
 have b:F5 t d=([],J2 t):=by unfold F5;rw[c];exact A5 h
 unfold K9;rw[b];exact A5 h
theorem A51(L:List Span)(b:Int)(n k:Nat)(q:Nat)(A:Int)(i:Nat)(c:A+(q:Int)=i) :
  ((List.range n).map fun j=>R9 (L.take k) b j||decide (A<=(j:Int)/\(j:Int)<A+q)).set i true=(List.range n).map fun j=>R9 (L.take k) b j||decide (A<=(j:Int)/\(j:Int)<A+(q+1:Nat)):=by
 refine oA n i _ _ _ (fun _=>?_) (fun j _ d=>?_)
 ·rw[A3 B1,Bool.or_true]
 ·congr 1
  exact decide_eq_decide.2 B1
theorem A52(t:Table)(w:Int)(d:Bool)(hr:K1 t.Rows)(hl:t.Rows.length<=134217728)(hx:U7 t.Rows<=536870912) :
  FnOk Tryz.prog 137 [pTable t,D2 w,D5 d] (fun rs=>rs=[pSpans (K9 t w d).1,D2 (K9 t w d).2]):=by
 refine FnOk.intro Tryz.func137 G6 Z Z Z Z (zz 2 ?_);refine B8 (P3 3 Z Z Z) Z (zz 7 ?_);refine D3 (HF t hr B1 B1) ?_;refine zc 7 (fun C=>?_) fun C=>?_
 ·have h:=A0 C;refine zz 3 ?_;refine A7 (K7 _ 2 spanC) Z (zz 3 ?_);exact A8 (S8 rfl rfl rfl rfl rfl) (by rw[B44 h])
 have h:=A1 C;have V:J2 t=0:=by omega
 refine zc 11 (fun C=>?_) fun C=>?_
 ·have h1:=A0 (or_pick.symm.trans C);refine zz 2 ?_;refine A7 (K7 _ 2 spanC) Z (zz 3 ?_);exact A8 (S8 rfl rfl rfl rfl rfl) (by unfold K9;rw[A6 (by rw[fE V];exact fun e=>e rfl),A5 B1])
 have h1:=A1 (or_pick.symm.trans C);rw[B43 V B1];have hI:=yX t d hr hl V;have M:=EK t d;have T:=EO t d;obtain⟨L,hL⟩:∃L,L=(F5 t d).1:=⟨_,rfl⟩
 rw[<-hL]at M hI T ⊢;obtain⟨O,I⟩:=M;obtain⟨n,hn⟩:∃n,n=t.Rows.length:=⟨_,rfl⟩
 rw[<-hn]at O I hl ⊢;refine K4 [(1,B2 w),(2,Q4 d),(3,.s (.one (.ref 3 0)))] [(3,.box (pTable t).s1.cells)] (Sees.of lf lo) (zz 6 ?_);refine B8 (j5 753 Bool l4 false Z Z B1 B1 (fun _=>by first | exact⟨⟨rfl,rfl⟩,trivial⟩ | exact⟨F0 _ _ _,trivial⟩ | exact⟨F0 _ _ _,⟨rfl,rfl⟩,F0 _ _ _,trivial⟩ | exact⟨⟨rfl,rfl⟩,⟨rfl,rfl⟩,trivial⟩) YR) Z ?_;refine B8 (E6 9 Z) Z (zz 2 ?_);rw[<-hn,C31];refine zz 10 ?_;refine D3 (hI) (zz 4 ?_);refine C5 (X:=Nat×Int) (fun x=>([(1,B2 w),(9,.s (.one (.ref 9 0))),(10,B2 x.2),(33,C0 Span 2 spanC L),(34,B2 L.length),(35,B2 x.1)],[(9,.box [.mut 753]),(753,.arr Bool 1 l4 ((List.range n).map (R9 (L.take x.1) w)))])) (fun x=>x.1<=L.length/\(0<=x.2/\x.2<=n)/\∀(hk:x.1<L.length) (i:Nat),L[x.1].From-w<=i->(i:Int)<x.2->R9 (L.take x.1) w i=true) (fun x=>L.length-x.1) (0,0) ⟨Nat.zero_le _,⟨Int.le_refl _,by omega⟩,fun _ i _ h=>by dsimp only at h;omega⟩ ?_ ?_
 ·have e:List.replicate n false=(List.range n).map (R9 (L.take 0) w):=by
   refine List.ext_getElem s6 fun q h1 h2=>?_;simp[R9]
  rw[e];exact Sees.of lf lo
 rintro⟨k,e⟩ ⟨hk,he,y⟩;dsimp only at hk he y ⊢;refine zc 5 (fun C=>?_) fun C=>?_;rotate_left
 ·have hkl:k=L.length:=by have:=A1 C;omega
  rw[hkl,C44];obtain⟨G,S⟩:∃G,G=(List.range n).map (R9 L w):=⟨_,rfl⟩
  have ad:G.length=n:=by rw[S];simp
  rw[<-S];have ha:Answers Tryz.prog 209 9 (.box [.p (.list Bool 1 l4 G)]) G:=fun gf ob h i Y=>QK G i Y h;have hm:=fun gf=>BY (gf:=gf) (ob:=[(9,.box [.p (.list Bool 1 l4 G)])]) G 209 9 (.box [.p (.list Bool 1 l4 G)]) B1 rfl B1 rfl ha;refine E2 (Sees.freeze (k:=753) Z) (K4 [(9,.s (.one (.ref 9 0)))] [(9,.box [.p (.list Bool 1 l4 G)])] (Sees.of lf lo) (zz 6 ?_));refine S9 (hm _) Z Z Z ?_;rintro _ _ ⟨rfl,rfl⟩;refine zz 3 ?_;refine E2 (Sees.freezeG (k:=750) Z Z) (yR ?_);exact A8 (S8 rfl rfl rfl rfl rfl) rfl
 have H:k<L.length:=by have:=A0 C;omega
 have hv:L[k]?=some L[k]:=by simp[H]
 have hs:=I _ (C35 H);have y:=y H;have z:=NK L w k H;have B:∀D:k+1<L.length,L[k].From<=L[k+1].From:=fun D=>up_get T D;obtain⟨s,ac⟩:∃s,s=L[k]:=⟨_,rfl⟩
 rw[<-ac]at hv hs y z B;obtain⟨J,U⟩:=s;dsimp only at hs y z B;refine zz 5 ?_;refine A7 (A9 Z (.pure _ _ _ _) Z B1 hv) Z (zz 1 ?_);refine B8 (E6 757 Z) Z (zz 2 ?_);refine K4 [(1,B2 w),(9,.s (.one (.ref 9 0))),(10,B2 e),(12,.s (.one (.ref 757 0))),(33,C0 Span 2 spanC L),(34,B2 L.length),(35,B2 k)] [(9,.box [.mut 753]),(753,.arr Bool 1 l4 ((List.range n).map (R9 (L.take k) w))),(757,.box [.p (.v (.int .i64 J)),.p (.v (.int .i64 U))])] (Sees.of lf lo) (zz 7 ?_);refine A7 (n_max Z Z) Z (zz 3 ?_);have W:((List.range n).map (R9 (L.take k) w)).length=n:=by simp
 refine zz 6 ?_;refine A7 (GJ Z Z) Z (zz 3 ?_);rw[W];obtain⟨A,hA⟩:∃A:Int,A=if e>J-w then e else J-w:=⟨_,rfl⟩
 obtain⟨E,hE⟩:∃E:Int,E=if (n:Int)<U+w then (n:Int) else U+w:=⟨_,rfl⟩
 have ae:e<=A/\J-w<=A/\(A=e\/A=J-w):=by rw[hA];split<;>omega
 have af:E<=n/\E<=U+w/\(E=n\/E=U+w):=by rw[hE];split<;>omega
 rw[<-hA,<-hE];refine zz 6 ?_;refine C5 (X:=Nat) (fun q=>([(1,B2 w),(9,.s (.one (.ref 9 0))),(10,B2 E),(14,B2 (A+q)),(33,C0 Span 2 spanC L),(34,B2 L.length),(35,B2 k)],[(9,.box [.mut 753]),(753,.arr Bool 1 l4 ((List.range n).map fun j=>R9 (L.take k) w j||decide (A<=(j:Int)/\(j:Int)<A+q)))])) (fun q=>q<=(E-A).toNat) (fun q=>(E-A).toNat-q) 0 (Nat.zero_le _) ?_ ?_
 ·have e0:((List.range n).map fun j=>R9 (L.take k) w j||decide (A<=(j:Int)/\(j:Int)<A+((0:Nat):Int)))=(List.range n).map (R9 (L.take k) w):=by
   refine List.map_congr_left fun j _=>?_;rw[A4 B1,Bool.or_false]
  dsimp only;rw[e0,show A+((0:Nat):Int)=A by omega];exact Sees.of lf lo
 intro q hq;dsimp only at hq ⊢;have Q:((List.range n).map fun j=>R9 (L.take k) w j||decide (A<=(j:Int)/\(j:Int)<A+q)).length=n:=by simp
 refine zc 7 (fun C=>?_) fun C=>?_
 ·have h2:=A0 C;have R:=A51 L w n k q A (A+q).toNat B1;refine zz 6 ?_;refine A7 (E0 Z Z Z B1 (by (first | omega | (rw[Q];omega)))) Z (O2 (I1 TySz.out Z Z (by (rw[Q];omega)) Z Z) ?_);refine zz 1 ?_;rw[R];refine zz 5 ?_;refine⟨q+1,by omega,by omega,?_⟩;rw[show A+((q+1:Nat):Int)=A+q+1 by omega];exact Sees.of lf lo
 have h2:=A1 C;have ah:q=(E-A).toNat:=by omega
 have K:((List.range n).map fun j=>R9 (L.take k) w j||decide (A<=(j:Int)/\(j:Int)<A+q))=(List.range n).map (R9 (L.take (k+1)) w):=by
  refine List.map_congr_left fun j hj=>?_;have ag:=C40.1 hj;rw[z j];by_cases P:J-w<=j/\(j:Int)<e
  ·rw[y j P.1 P.2,Bool.true_or,Bool.true_or]
  ·congr 1
   exact decide_eq_decide.2 B1
 rw[K];refine zz 5 ?_;refine⟨(k+1,E),⟨by dsimp only;omega,by dsimp only;omega,fun D i Y ab=>?_⟩,by dsimp only;omega,Sees.of lf lo⟩;dsimp only at D Y ab ⊢;have:=B D;rw[z i,A3 B1,Bool.or_true]
theorem WC(a:List Row)(n:Nat)(c:n<=32)(d:K1 a)(b:a.length<=268435456):FnOk Tryz.prog 92 [pRows a,D2 n] (fun e=>e=[L0 (F8 a n)]) :=
 C21 (k:=720) rfl (mH a n c d b)
theorem WD{gf:Fr}{ob:Obs}(l:List Int)(d:0<l.length/\l.length<=1073741824)(h:B4 ob 720=some (.arr Int 1 E3 l)) :
  AL.Met Tryz.prog 212 [.one (.mut 720)] gf ob [] (fun rs ob'=>rs=[.one (.p (.list Int 1 E3 l))]/\ob'=ob):=by
 refine AL.Met.intro Tryz.func212 G6 Z Z Z (zz 8 ?_);refine A7 (FG Z h) Z ?_;refine zc 1 (fun b=>?_) fun b=>?_
 ·cases b
 refine zz 3 ?_;refine A7 (mC (c:=E3) (ys:=[]) F2 Z Z Z) Z (zz 1 ?_);refine A7 (sW Z Z h TQ (d.1)) Z (zz 2 ?_);rw[C58];refine zz 1 ?_;exact F1 (O3 rfl rfl) cQ (fun _ _ h=>h) ⟨rfl,rfl⟩
theorem A53(l:List Row)(d:0<l.length/\l.length<=1073741824):FnOk Tryz.prog 213 [pRows l] (fun rs=>rs=[pRows l]):=by
 refine FnOk.intro Tryz.func213 G6 Z Z Z Z (zz 8 ?_);(first | (refine JX (GW rfl (.pure _ _ _ _)) rfl ?_) | (refine JX (GW rfl (.buf _ _ _ _ _)) rfl ?_));rintro _ ⟨h,rfl,a⟩;refine zz 1 ?_;refine zc 0 (fun g=>?_) fun g=>?_
 ·have:=a g;rw[this]at d;exact absurd d.1 s6
 refine zz 3 ?_;refine A7 (mC (c:=rowC) (ys:=[]) F2 Z Z Z) Z (zz 1 ?_);refine A7 (pE Z Z (.pure _ _ _ _) TQ (d.1)) Z (zz 2 ?_);rw[C58];refine zz 1 ?_;exact A8 (F7 rfl rfl rfl) rfl
theorem WE(b:List Row)(n k:Nat){e t:Nat}(h:e<=t):N2 (b.take t) n k=N2 (b.take e) n k+N2 ((b.drop e).take (t-e)) n k:=by
 have c:b.take t=b.take e++(b.drop e).take (t-e):=by
  have:=List.take_add (l:=b) (i:=e) (j:=t-e)
  rwa[show e+(t-e)=t by omega]at this
 unfold N2;rw[c];unfold L9;rw[C83,C50,C32,Int.natCast_add]
def lB(b:List Row)(n e t i:Nat):List Int:=(List.range (n+1)).map fun k=>if k<i then N2 (b.take t) n k else N2 (b.take e) n k
theorem A54(a:List Row)(n e t i:Nat):(lB a n e t i).length=n+1:=by simp[lB]
theorem WF(a:List Row)(n e t:Nat):lB a n e t 0=F8 (a.take e) n:=by
 unfold lB F8;exact List.map_congr_left fun k _=>A6 B1
theorem WG(a:List Row)(n e t:Nat):lB a n e t (n+1)=F8 (a.take t) n:=by
 unfold lB F8;exact List.map_congr_left fun k b=>A5 (by simpa using b)
theorem A55(a:List Row)(n e t i:Nat)(b:i<n+1):(lB a n e t i)[i]?=some (N2 (a.take e) n i):=by
 unfold lB;rw[vQ (n+1) i _ b,A6 B1]
theorem A56(a:List Row)(n e t i:Nat):(lB a n e t i).set i (N2 (a.take t) n i)=lB a n e t (i+1):=by
 refine oA (n+1) i _ _ _ (fun _=>A5 B1) (fun q _ b=>?_);by_cases h:q<i
 ·rw[A5 h,A5 B1]
 ·rw[A6 h,A6 B1]
theorem ZA(a:List Row)(n k:Nat):0<=N2 a n k/\N2 a n k<=a.length:=by
 unfold N2;have:=vR a (dQ n k);omega
theorem b3w{p:Prop}(h:p:=by (first | omega | (dsimp only;omega))):p:=h
theorem BZ{gf:Fr}{ob:Obs}(t:Table)(n e z:Nat)(D:t.Parents=n)(E:n<=32)(M:K1 t.Rows)(T:t.Rows.length<=8388608)(O:e<=z)(P:z<=t.Rows.length)
  (B:B4 ob 5=some (.box (pTable t).s1.cells)) (w:B4 ob 13=some (aV e)) (A:B4 ob 12=some (.box [.mut 720])) (d:B4 ob 720=some (.arr Int 1 E3 (F8 (t.Rows.take e) n))) :
  AL.Met Tryz.prog 211 [iS z,.one (.ref 5 0),.one (.ref 13 0),.one (.ref 12 0)] gf ob []
   (fun rs ob'=>rs=[]/\ob'=(13,aV z)::(720,.arr Int 1 E3 (F8 (t.Rows.take z) n))::(5,.box (pTable t).s1.cells)::(12,.box [.mut 720])::ob):=by
 obtain⟨tp,rows⟩:=t;have D:tp=(n:Int):=D;subst D;dsimp only at M T P d ⊢;have V:((rows.drop e).take (z-e)).length=z-e:=by rw[C41,C45];omega
 have J:=WC ((rows.drop e).take (z-e)) n E (fun r U=>M r (List.mem_of_mem_drop (List.mem_of_mem_take U))) B1;obtain⟨v,q⟩:∃v,v=F8 ((rows.drop e).take (z-e)) n:=⟨_,rfl⟩
 have Q:v.length=n+1:=by rw[q];simp[F8]
 rw[<-q]at J;refine AL.Met.introH Tryz.func211 G6 rfl rfl rfl (fun K=>?_);refine zz 4 ?_;refine D7 (C2 Z B Z) Z Z (D7 (C2 Z w Z) Z Z (zz 1 ?_));refine D7 (x6 Z (.pure _ _ _ _) Z Z b3w b3w b3w) Z Z (zz 1 ?_);refine D7 (C2 Z B Z) Z Z (D7 (I4 (J) Z Z) Z Z (zz 4 ?_));refine C5 (X:=Nat) (fun i=>([(0,B2 z),(1,.s (.one (.ref 5 0))),(2,.s (.one (.ref 13 0))),(3,.s (.one (.ref 12 0))),(14,C0 Int 1 E3 v),(15,B2 v.length),(16,B2 i)]++gf,(13,aV e)::(720,.arr Int 1 E3 (lB rows n e z i))::(5,.box (pTable ⟨n,rows⟩).s1.cells)::(12,.box [.mut 720])::ob)) (fun i=>i<=n+1) (fun i=>n+1-i) 0 (Nat.zero_le _) ?_ ?_
 ·dsimp only;rw[WF];exact B91 lf K rT (r9 (L:=[(13,_),(720,_),(5,_),(12,_)]) ⟨w,d,B,A,trivial⟩ mA)
 intro i S;dsimp only at S ⊢;have j:=A54 rows n e z i;refine zc 5 (fun H=>?_) fun H=>?_
 ·have y:i<n+1:=by have:=A0 H;omega
  have Y:v[i]?=some (N2 ((rows.drop e).take (z-e)) n i):=by rw[q];unfold F8;exact vQ (n+1) i _ y
  have R:=A55 rows n e z i y;have G:=A56 rows n e z i;have F:=WE rows n i O;have b1:=ZA (rows.take e) n i;have b2:=ZA ((rows.drop e).take (z-e)) n i;have W:(rows.take e).length=e:=by rw[C41];omega
  have I:(lB rows n e z i)[((i:Nat):Int).toNat]?=some (N2 (rows.take e) n i):=by rw[C31];exact R
  refine zz 6 ?_;refine A7 (A9 Z (.pure _ _ _ _) Z B1 Y) Z (zz 7 ?_);refine A7 (E0 Z Z Z B1 (by (rw[j];omega))) Z ?_;refine A7 (M9 Z Z I Z) Z (zz 2 ?_);refine A7 (E0 Z Z Z B1 (by (rw[j];omega))) Z ?_;refine O2 (I1 TySz.out Z Z (by (rw[j];omega)) Z Z) ?_;refine zz 1 ?_;rw[C31,<-F,G];refine zz 4 ?_;refine⟨i+1,by omega,by omega,?_⟩;exact B91 lf K rT (r9 (L:=[(13,_),(720,_),(5,_),(12,_)]) ⟨rfl,rfl,rfl,rfl,trivial⟩ b0x)
 have C:i=n+1:=by have:=A1 H;omega
 rw[C,WG];refine zz 5 ?_;skip;exact AI (rets0 rfl) rT (r9 (L:=[(13,_),(720,_),(5,_),(12,_)]) ⟨rfl,rfl,rfl,rfl,trivial⟩ b0x) ⟨rfl,rfl⟩
def CA(n:Int):Int->List Span->Bool
 | _,[]=>true
 | e,s::r=>if s.From<e\/s.To<=s.From\/n<s.To then false else CA n s.To r
theorem QL(sp:List Span)(n:Int)(t:sp.length<=536870912):FnOk Tryz.prog 210 [pSpans sp,D2 n] (fun rs=>rs=[D5 (CA n 0 sp)]):=by
 obtain⟨W,g⟩:∃W,W=CA n 0 sp:=⟨_,rfl⟩
 rw[<-g];refine FnOk.intro Tryz.func210 G6 Z Z Z Z (zz 16 ?_);refine C5 (X:=Nat×Int) (fun x=>([(1,B2 n),(5,B2 x.2),(8,C0 Span 2 spanC sp),(9,B2 sp.length),(10,B2 x.1)],[])) (fun x=>x.1<=sp.length/\W=CA n x.2 (sp.drop x.1)) (fun x=>sp.length-x.1) (0,0) ⟨Nat.zero_le _,g⟩ (Sees.of lf lo) ?_;rintro⟨k,e⟩ ⟨o,a⟩;dsimp only at o a ⊢;refine zc 5 (fun b=>?_) fun b=>?_;rotate_left
 ·have hkl:k=sp.length:=by have:=A1 b;omega
  rw[hkl,C51 (Nat.le_refl _)]at a;have a:W=true:=a;refine zz 6 ?_;exact A8 (F7 rfl rfl rfl) (by rw[a])
 have c:k<sp.length:=by have:=A0 b;omega
 have h:sp[k]?=some sp[k]:=by simp[c]
 rw[C38 c,CA]at a;obtain⟨s,f⟩:∃s,s=sp[k]:=⟨_,rfl⟩
 rw[<-f]at a h;refine zz 5 ?_;refine A7 (A9 Z (.pure _ _ _ _) Z B1 h) Z (zz 1 ?_);refine B8 (E6 757 Z) Z ?_;refine zc 23 (fun b=>?_) fun b=>?_
 ·have d:s.From<e\/s.To<=s.From\/n<s.To:=by
   by_cases j:s.From<e
   ·exact .inl j
   ·by_cases m:s.To<=s.From
    ·exact .inr (.inl m)
    ·simp[j,m]at b;exact .inr (.inr b)
  rw[A5 d]at a;refine zz 5 ?_;exact A8 (F7 rfl rfl rfl) (by rw[a])
 have d:¬(s.From<e\/s.To<=s.From\/n<s.To):=by
  rintro (q | q | q)
  ·simp[q]at b
  ·simp[q]at b
  ·simp[q]at b
 rw[A6 d]at a;refine zz 10 ?_;exact⟨(k+1,s.To),⟨c,a⟩,by dsimp only;omega,Sees.of lf lo⟩
theorem ZB{n:Nat}{rows:List Row}:∀{sp:List Span} {e:Int} {hs:List CHunk},CA rows.length e sp=false->bJ n rows e hs sp=none
 | [],e,hs,h=>by cases h
 | s::r,e,hs,h=>by
  rw[CA]at h;rw[bJ];by_cases a:s.From<e\/s.To<=s.From\/(rows.length:Int)<s.To
  ·rw[A5 a]
  ·rw[A6 a]at h ⊢;exact ZB h
abbrev z59:Ob:=.box [.p (.v (.string ⟨#[]⟩)),.p (.v (.bool false)),.p (.v (.int .i64 0)),.p (.v (.slice none 0 0))]
theorem pcut_ok(j:Str)(t:Table)(sp:List Span)(d:Bool)(I:K1 t.Rows)(hW:(t.Rows.map P9).sum<=8388608)(hx:U7 t.Rows<=8388608)(af:sp.length<=536870912) :
  FnOk Tryz.prog 138 [E5 j,pTable t,pSpans sp,D5 d] (fun rs=>rs=[N5 (bR j t sp d).1,D2 (bR j t sp d).2]):=by
 have hl:=cH t.Rows;have U:t.Rows.length<=8388608:=by omega
 refine FnOk.intro Tryz.func138 G6 Z Z Z Z (zz 2 ?_);refine B8 (P3 5 Z Z Z) Z (B8 (E6 8 Z) Z (zz 6 ?_));refine D3 (vK j) ?_;refine zc 2 (fun w=>?_) fun w=>?_
 ·have h:i7 j=false:=by simpa using w
  refine zz 6 ?_;refine E2 (B92 CHunk 2 M3 8 3 Z Z) (zz 1 ?_);exact A8 (rs:=[N5 comb0,D2 120]) (S0 rfl rfl rfl rfl rfl rfl rfl) (by unfold bR;rw[A5 h])
 have h:i7 j=true:=by simpa using w
 refine zz 5 ?_;refine D3 (HF t I B1 B1) ?_;refine zc 7 (fun w=>?_) fun w=>?_
 ·have L:=A0 w;refine zz 7 ?_;refine E2 (B92 CHunk 2 M3 8 3 Z Z) (zz 1 ?_);exact A8 (rs:=[N5 comb0,D2 (J2 t)]) (S0 rfl rfl rfl rfl rfl rfl rfl) (by unfold bR;rw[A6 (by rw[h];decide),A5 L])
 have L:=A1 w;have M:J2 t=0:=by omega
 obtain⟨Y,ab⟩:=PT M;obtain⟨n,V⟩:∃n:Nat,t.Parents=n:=⟨t.Parents.toNat,by omega⟩
 obtain⟨tp,rows⟩:=t;have V:tp=(n:Int):=V;subst V;dsimp only at I hW hx hl U Y ab;have G:bR j ⟨n,rows⟩ sp d=match bJ n rows 0 [] sp with
  | none=>(comb0,3)
  | some hs=>if J7 ⟨j,d,(n:Int),hs⟩≠0 then (comb0,J7 ⟨j,d,(n:Int),hs⟩) else (⟨j,d,(n:Int),hs⟩,0):=by
  unfold bR;rw[A6 (by rw[h];decide),A6 B1];rfl
 rw[G];obtain⟨W,B⟩:∃W,W=bJ n rows 0 [] sp:=⟨_,rfl⟩
 have S:∀hs,W=some hs->eO hs<=268435456/\∀x∈hs,K1 x.Rows:=fun hs e=>YV (n:=n) B1 I hW (by rw[<-B];exact e);have z:=ZB (n:=n) (rows:=rows) (sp:=sp) (e:=0) (hs:=[]);rw[<-B]at z ⊢;refine zz 8 ?_;refine D3 (QL sp rows.length af) ?_;refine zc 2 (fun w=>?_) fun w=>?_
 ·have ac:CA rows.length 0 sp=false:=by simpa using w
  rw[z ac];refine zz 6 ?_;refine E2 (B92 CHunk 2 M3 8 3 Z Z) (zz 1 ?_);exact A8 (rs:=[N5 comb0,D2 3]) (S0 rfl rfl rfl rfl rfl rfl rfl) rfl
 have H:CA rows.length 0 sp=true:=by simpa using w
 refine zz 8 ?_;refine B8 (E6 11 Z) Z (zz 2 ?_);refine E2 (B95 754 CHunk 2 M3 42 (kb:=11) (o:=3) Z Z Z) (k2 ?_);have e0:((n:Int)+1).toNat=n+1:=by omega
 have hz:List.replicate (n+1) (0:Int)=F8 (rows.take 0) n:=by
  refine List.ext_getElem (by simp[F8]) fun q L J=>?_;simp[F8,N2,L9]
 refine zz 4 ?_;refine B8 (j5 720 Int E3 0 Z Z B1 B1 (fun _=>by first | exact⟨⟨rfl,rfl⟩,trivial⟩ | exact⟨F0 _ _ _,trivial⟩ | exact⟨F0 _ _ _,⟨rfl,rfl⟩,F0 _ _ _,trivial⟩ | exact⟨⟨rfl,rfl⟩,⟨rfl,rfl⟩,trivial⟩) YR) Z ?_;refine B8 (E6 12 Z) Z (zz 2 ?_);rw[e0,hz];refine zz 2 ?_;refine B8 (E6 13 Z) Z (zz 15 ?_);refine C5 (X:=Nat×Nat×List CHunk) (fun x=>([(5,.s (.one (.ref 5 0))),(8,.s (.one (.ref 8 0))),(11,.s (.one (.ref 11 0))),(12,.s (.one (.ref 12 0))),(14,.s (.one (.clo 211 [] [(5,0),(13,0),(12,0)]))),(45,C0 Span 2 spanC sp),(46,B2 sp.length),(47,B2 x.1)],[(5,.box (pTable ⟨n,rows⟩).s1.cells),(8,z59),(11,.box [.p (.v (.string ⟨j.toArray⟩)),.p (.v (.bool d)),.p (.v (.int .i64 n)),.buf 754 CHunk 2 M3 x.2.2]),(754,.spare x.2.2.length 2 42),(12,.box [.mut 720]),(13,aV x.2.1),(720,.arr Int 1 E3 (F8 (rows.take x.2.1) n))])) (fun x=>x.1<=sp.length/\x.2.1<=rows.length/\x.2.2.length<=x.1/\W=bJ n rows x.2.1 x.2.2 (sp.drop x.1)/\CA rows.length x.2.1 (sp.drop x.1)=true) (fun x=>sp.length-x.1) (0,0,[]) ⟨Nat.zero_le _,Nat.zero_le _,Nat.le_refl _,B,H⟩ (Sees.of lf lo) ?_;rintro⟨k,e,hs⟩ ⟨hk,he,ae,y,A⟩;dsimp only at hk he ae y A ⊢;refine zc 5 (fun w=>?_) fun w=>?_;rotate_left
 ·have hkl:k=sp.length:=by have:=A1 w;omega
  rw[hkl,C51 (Nat.le_refl _)]at y;have y:W=some hs:=y;obtain⟨z1,z2⟩:=S hs y;rw[y];dsimp only;refine zz 5 ?_;refine D3 (vL ⟨j,d,n,hs⟩ z1 z2) ?_;refine zc 7 (fun w=>?_) fun w=>?_
  ·have J:=A0 w;refine zz 7 ?_;refine E2 (B92 CHunk 2 M3 8 3 Z Z) (zz 1 ?_);exact A8 (rs:=[N5 comb0,D2 (J7 ⟨j,d,n,hs⟩)]) (S0 rfl rfl rfl rfl rfl rfl rfl) (by rw[A5 J])
  ·have J:=A1 w;refine zz 8 ?_;exact A8 (rs:=[N5 ⟨j,d,n,hs⟩,D2 0]) (S0 rfl rfl rfl rfl rfl rfl rfl) (by rw[A6 J])
 have C:k<sp.length:=by have:=A0 w;omega
 have hv:sp[k]?=some sp[k]:=by simp[C]
 rw[C38 C,bJ]at y;rw[C38 C,CA]at A;obtain⟨s,ad⟩:∃s,s=sp[k]:=⟨_,rfl⟩
 rw[<-ad]at y hv A;have E:¬(s.From<(e:Int)\/s.To<=s.From\/(rows.length:Int)<s.To):=by
  intro E;rw[A5 E]at A;cases A
 rw[A6 E]at y A;simp only[not_or,Int.not_lt,Int.not_le]at E;obtain⟨c1,c2,c3⟩:=E;obtain⟨F,Q⟩:∃F:Nat,s.From=F:=⟨s.From.toNat,by omega⟩
 obtain⟨T,R⟩:∃T:Nat,s.To=T:=⟨s.To.toNat,by omega⟩
 obtain⟨sF,sT⟩:=s;have Q:sF=(F:Int):=Q;have R:sT=(T:Int):=R;subst Q R;dsimp only at c1 c2 c3 y A;rw[C31,C31]at y;have ag:((rows.drop F).take (T-F)).length=T-F:=by rw[C41,C45];omega
 have ah:(F8 (rows.take F) n).length=n+1:=by simp[F8]
 refine zz 5 ?_;refine A7 (A9 Z (.pure _ _ _ _) Z B1 hv) Z (zz 1 ?_);refine B8 (E6 16 Z) Z (zz 2 ?_);refine K4 [(5,.s (.one (.ref 5 0))),(8,.s (.one (.ref 8 0))),(11,.s (.one (.ref 11 0))),(12,.s (.one (.ref 12 0))),(14,.s (.one (.clo 211 [] [(5,0),(13,0),(12,0)]))),(16,.s (.one (.ref 16 0))),(45,C0 Span 2 spanC sp),(46,B2 sp.length),(47,B2 k)] [(5,.box (pTable ⟨n,rows⟩).s1.cells),(8,z59),(11,.box [.p (.v (.string ⟨j.toArray⟩)),.p (.v (.bool d)),.p (.v (.int .i64 n)),.buf 754 CHunk 2 M3 hs]),(754,.spare hs.length 2 42),(12,.box [.mut 720]),(13,aV e),(720,.arr Int 1 E3 (F8 (rows.take e) n)),(16,.box [.p (.v (.int .i64 F)),.p (.v (.int .i64 T))])] (Sees.of lf lo) (zz 5 ?_);refine eW (BZ ⟨n,rows⟩ n e F Z B1 I b5x B1 b5x Z Z Z Z) Z Z Z Z ?_;rintro _ _ ⟨rfl,rfl⟩;refine zz 1 ?_;refine K4 [(5,.s (.one (.ref 5 0))),(8,.s (.one (.ref 8 0))),(11,.s (.one (.ref 11 0))),(12,.s (.one (.ref 12 0))),(14,.s (.one (.clo 211 [] [(5,0),(13,0),(12,0)]))),(16,.s (.one (.ref 16 0))),(45,C0 Span 2 spanC sp),(46,B2 sp.length),(47,B2 k)] [(5,.box (pTable ⟨n,rows⟩).s1.cells),(8,z59),(11,.box [.p (.v (.string ⟨j.toArray⟩)),.p (.v (.bool d)),.p (.v (.int .i64 n)),.buf 754 CHunk 2 M3 hs]),(754,.spare hs.length 2 42),(12,.box [.mut 720]),(13,aV F),(720,.arr Int 1 E3 (F8 (rows.take F) n)),(16,.box [.p (.v (.int .i64 F)),.p (.v (.int .i64 T))])] (Sees.of lf lo) (k2 ?_);have P:=A53 ((rows.drop F).take (T-F)) B1;have O:=fun gf ob h=>WD (gf:=gf) (ob:=ob) (F8 (rows.take F) n) B1 h;refine Q9 [16,14,3] [[],[3],[14,3],[16,14,3]] [(3,([],[])),(14,([754],[56])),(16,([],[]))] [(0,[]),(1,[]),(2,[]),(3,[]),(4,[]),(5,[]),(6,[]),(7,[]),(8,[]),(9,[]),(10,[]),(11,[3]),(12,[3]),(13,[3]),(14,[3]),(15,[14,3]),(16,[14,3])] [(0,[3]),(1,[3]),(4,[3]),(5,[3]),(6,[3]),(7,[3]),(8,[3]),(9,[3]),(10,[3])] F6 F6 (D6 Z Z F6 Z Z (B5 Z) (D6 Z Z F6 Z Z (C2 Z Z Z) (D6 Z Z F6 Z Z (C2 Z Z Z) (Z9 Z Z F6 Z Z (r_met (fun gf=>O gf _ Z) Z Z) Z (D6 Z Z F6 Z Z (B5 Z) (D6 Z Z F6 Z Z (C2 Z Z Z) (D6 Z Z F6 Z Z (B5 Z) (D6 Z Z F6 Z Z (C2 Z Z Z) (D6 Z Z F6 Z Z (B5 Z) (D6 Z Z F6 Z Z (C2 Z Z Z) (D6 Z Z F6 Z Z (x6 Z (.pure _ _ _ _) Z Z b3w b3w b3w) (D6 Z Z F6 Z Z (I4 (P) Z Z) (D6 Z Z F6 Z Z (Y9 Z) (D6 Z Z F6 Z Z (C6 (c:=M3) (ys:=[⟨F8 (rows.take F) n,(rows.drop F).take (T-F)⟩]) (D1 Z Z Z Z F2) Z Z Z) (Z9 Z Z F6 Z Z (jJ (fun K D=>R1 (W9 D Z) Z (W9 D Z) (.pure _ _ _ _) b8q Z)) Z (D6 Z Z F6 Z Z (B5 Z) (Z9 Z Z F6 Z Z (sR (fun K D=>H0 TySz.out (W9 D Z) Z (W9 D Z) Z Z Z)) Z ?_)))))))))))))))));refine sQ F6 rfl ?_ ?_
 ·refine L6 Z Z F6 Z Z (B5 Z) (L6 Z Z F6 Z Z (C2 Z Z Z) (L6 Z Z F6 Z Z (B5 Z) (L6 Z Z F6 Z Z (C2 Z Z Z) (L6 Z Z F6 Z Z (B5 Z) (L6 Z Z F6 Z Z (C2 Z Z Z) (L6 Z Z F6 Z Z (B5 Z) (L6 Z Z F6 Z Z (C2 Z Z Z) (L6 Z Z F6 Z Z (x6 Z (.pure _ _ _ _) Z Z b3w b3w b3w) ?_))))))));exact pC
 refine K4 [(5,.s (.one (.ref 5 0))),(8,.s (.one (.ref 8 0))),(11,.s (.one (.ref 11 0))),(12,.s (.one (.ref 12 0))),(14,.s (.one (.clo 211 [] [(5,0),(13,0),(12,0)]))),(16,.s (.one (.ref 16 0))),(45,C0 Span 2 spanC sp),(46,B2 sp.length),(47,B2 k)] [(5,.box (pTable ⟨n,rows⟩).s1.cells),(8,z59),(11,.box [.p (.v (.string ⟨j.toArray⟩)),.p (.v (.bool d)),.p (.v (.int .i64 n)),.buf 754 CHunk 2 M3 (hs++[⟨F8 (rows.take F) n,(rows.drop F).take (T-F)⟩])]),(754,.spare (hs++[(⟨F8 (rows.take F) n,(rows.drop F).take (T-F)⟩:CHunk)]).length 2 42),(12,.box [.mut 720]),(13,aV F),(720,.arr Int 1 E3 (F8 (rows.take F) n)),(16,.box [.p (.v (.int .i64 F)),.p (.v (.int .i64 T))])] (Sees.of lf lo) ?_;skip;refine zz 4 ?_;refine eW (BZ ⟨n,rows⟩ n F T Z B1 I b5x B1 b5x Z Z Z Z) Z Z Z Z ?_;rintro _ _ ⟨rfl,rfl⟩;refine zz 5 ?_;exact⟨(k+1,T,hs++[⟨F8 (rows.take F) n,(rows.drop F).take (T-F)⟩]),⟨by dsimp only;omega,by dsimp only;omega,by dsimp only;rw[C32];simp;omega,y,A⟩,by dsimp only;omega,Sees.of lf lo⟩
theorem sum_up{f h:Nat->Nat}:∀{n:Nat},(∀k,f k<=h k)->((List.range n).map f).sum<=((List.range n).map h).sum
 | 0,_=>Nat.le_refl _
 | n+1,hf=>by
  have:=sum_up (n:=n) hf;have:=hf n;simp only[C75,C50,C76,C39,C77,C67,C91];omega
theorem ZC{f h:Nat->Nat}:∀{n k:Nat},(∀k,f k<=h k)->k<n->f k+1<=h k->((List.range n).map f).sum+1<=((List.range n).map h).sum
 | 0,k,_,hk,_=>absurd hk B1
 | n+1,k,hf,hk,h1=>by
  simp only[C75,C50,C76,C39,C77,C67,C91];by_cases e:k=n
  ·subst e;have:=sum_up (n:=k) hf;omega
  ·have:=ZC (n:=n) hf B1 h1;have:=hf n;omega
theorem ZD{f:Nat->Nat}{B:Nat}:∀{n:Nat},(∀k,k<n->f k<=B)->((List.range n).map f).sum<=n*B
 | 0,_=>by simp
 | n+1,hf=>by
  have:=ZD (n:=n) (f:=f) (B:=B) fun k b=>hf k B1;have:=hf n B1;simp only[C75,C50,C76,C39,C77,C67,C91,C62,Nat.one_mul];omega
def MA(b:List Row)(n:Nat):Nat:=((List.range n).map fun (k:Nat)=>(L9 b ((k:Int)-1)).length).sum
theorem xL{n:Nat}(d:n<=32):∀{a:List Row},R0 a n=true->a.length<=MA a (n+1)
 | [],_=>Nat.zero_le _
 | x::r,h=>by
  rw[jU,C30]at h;obtain⟨k,i,j⟩:=JU d h.1;have m:=xL d h.2;have b:∀c:Int,(L9 (x::r) c).length=(L9 r c).length+if y3 x c=true then 1 else 0:=fun c=>by
   unfold L9;rw[C80];split<;>simp
  have o:=ZC (n:=n+1) (k:=k) (f:=fun (k:Nat)=>(L9 r ((k:Int)-1)).length) (h:=fun (k:Nat)=>(L9 (x::r) ((k:Int)-1)).length) (fun k=>by (try dsimp only);rw[b];omega) i (by (try dsimp only);rw[b,A5 j];omega);unfold MA at m ⊢;rw[C34];omega
structure SmallM (x:Str) (r:List Str):Prop where
 n1:1<=r.length
 n3:r.length<=3
 all:∀b∈x::r,(B6 b).length<=128/\b.length<=512
theorem SmallM.good{x:Str}{r:List Str}(h:SmallM x r):(E7 x r).2=0/\J2 (E7 x r).1=0/\(E7 x r).1.Parents=r.length/\Made16 x r (E7 x r).1.Rows:=by
 have i:=h.n1;have m:=h.n3;have k:=h.all x s6;have f:∀b∈r,(B6 b).length<=128:=fun b hb=>(h.all b (by simp[hb])).1;have c:(E7 x r).2=0:=TH (B:=128) ⟨i,by omega⟩ k.1 f B1;have d:∀b∈r,(B6 b).length<=4096:=fun b hb=>by have:=f b hb;omega
 have j:=yN B1 d c;exact⟨c,NM B1 d c,j.2⟩
theorem SmallM.sums{x:Str}{r:List Str}(h:SmallM x r):K1 (E7 x r).1.Rows/\(E7 x r).1.Rows.length<=512/\U7 (E7 x r).1.Rows<=262144/\((E7 x r).1.Rows.map P9).sum<=311296/\((E7 x r).1.Rows.map (rP r.length)).sum<=278528:=by
 have y:=h.n1;have z:=h.n3;have f:=h.all x s6;obtain⟨k1,_,k3⟩:=NG x r 128 512 f (fun b hb=>h.all b (by simp[hb]));obtain⟨_,_,_,d⟩:=h.good;have c:(E7 x r).1.Rows.length<=512:=by
  have A:=xL B1 d.marks;have B:MA (E7 x r).1.Rows (r.length+1)<=(r.length+1)*128:=by
   unfold MA;refine ZD fun k C=>?_;cases k with
   | zero =>
    show (L9 _ (-1)).length<=128;rw[d.res];exact f.1
   | succ q =>
    rw[show (((q+1:Nat):Int)-1)=(q:Int) by omega,d.par q B1,C33,C29 B1];exact (h.all _ s6).1
  have:(r.length+1)*128<=4*128:=C47 _ B1;omega
 obtain⟨D,t2,t3⟩:=textsLen_le k3;have t4:=t3 r.length;have i:(E7 x r).1.Rows.length*512<=512*512:=C47 _ c;have j:(E7 x r).1.Rows.length*(512+96)<=512*(512+96):=C47 _ c;have v:(E7 x r).1.Rows.length*(512+r.length+29)<=512*544:=Nat.mul_le_mul c B1;exact⟨k1,c,by omega,by omega,by omega⟩
theorem CB{path x:Str}{r:List Str}{ctx:Int}(d:Bool)(q:i7 path=true)(E:path.length<=400)(h:SmallM x r)(D:0<=ctx/\ctx<=1048576) :
  ∃c:Comb,gX path x r ctx d=(c,0)/\c=⟨path,d,r.length,Y0 r.length (E7 x r).1.Rows (K9 (E7 x r).1 ctx d).1⟩/\J7 c=0/\(P6 c).length<=600000/\eO c.Hunks<=268435456/\(∀y∈c.Hunks,K1 y.Rows)/\CutSp (E7 x r).1.Rows.length 0 (K9 (E7 x r).1 ctx d).1:=by
 have H:=h.n3;obtain⟨g1,m,i,_⟩:=h.good;obtain⟨s1,s2,I,J,K⟩:=h.sums;obtain⟨k1,k2⟩:=NO (t:=(E7 x r).1) d m D;have p:=XX (path:=path) (sp:=(K9 (E7 x r).1 ctx d).1) (d:=d) q m B1 k2 (by rw[i,C31];omega);rw[i,C31]at p;obtain⟨f,A,_⟩:=p;have e:gX path x r ctx d=bR path (E7 x r).1 (K9 (E7 x r).1 ctx d).1 d:=by
  unfold gX;rw[A6 (by rw[q];decide),g1,A6 G6,k1,A6 G6]
 obtain⟨c,a⟩:∃c:Comb,c=⟨path,d,r.length,Y0 r.length (E7 x r).1.Rows (K9 (E7 x r).1 ctx d).1⟩:=⟨_,rfl⟩
 have k:=B35 (path:=path) (sp:=(K9 (E7 x r).1 ctx d).1) (d:=d) s1 B1;rw[f]at k;have b:(bR path (E7 x r).1 (K9 (E7 x r).1 ctx d).1 d).2=0:=by rw[f]
 obtain⟨_,_,hs,v,_,z⟩:=cut18_w b;rw[i,C31]at v;rw[f]at z;have j:hs=Y0 r.length (E7 x r).1.Rows (K9 (E7 x r).1 ctx d).1:=by
  have:=congrArg (fun y=>y.1.Hunks) z;simpa using this.symm
 have B:=zV (rP r.length) (28*(r.length+1)+2) r.length (E7 x r).1.Rows (K9 (E7 x r).1 ctx d).1 0 [] hs (Int.le_refl _) v s6 s6;have u:=SG ⟨path,d,r.length,hs⟩;dsimp only at u;rw[C31]at u;obtain⟨F,C⟩:=B;simp only[C43]at C;have G:(28*(r.length+1)+2)*hs.length<=114*512:=Nat.mul_le_mul B1 B1;refine⟨c,by rw[a];exact e.trans f,a,by rw[a];exact A,?_,by rw[a];exact k.1,by rw[a];exact k.2,k2⟩;rw[a,<-j];omega
theorem A57(c x:Str)(r:List Str)(i:Int)(d:Bool)(h:SmallM x r\/(r=[]/\(B6 x).length<=128/\x.length<=512)):FnOk Tryz.prog 71 [E5 c,E5 x,Z7 r,D2 i,D5 d] (fun rs=>rs=[N5 (gX c x r i d).1,D2 (gX c x r i d).2]):=by
 obtain⟨K,k,f,I,s1,s2⟩:r.length<=3/\(∀b∈x::r,(B6 b).length<=128/\b.length<=512)/\K1 (E7 x r).1.Rows/\(E7 x r).1.Rows.length<=512/\U7 (E7 x r).1.Rows<=262144/\((E7 x r).1.Rows.map P9).sum<=311296:=by
  rcases h with h | ⟨rfl,E,z⟩
  ·obtain⟨k1,k2,k3,k4,_⟩:=h.sums;exact⟨h.n3,h.all,k1,k2,k3,k4⟩
  ·have e:E7 x []=(⟨0,[]⟩,2):=by unfold E7;rw[A5 s6]
   rw[e];exact⟨by simp,(fun b hb=>by rw[List.mem_singleton.1 hb];exact⟨E,z⟩),(fun q L=>by cases L),by simp,by simp[U7],by simp⟩
 have M:=k x s6;have H:=B41 x r 128 B1 B1 ⟨M.1,by omega⟩ (fun b hb=>by have:=k b (by simp[hb]);omega);obtain⟨t,e,C⟩:∃t e,E7 x r=(t,e):=⟨_,_,rfl⟩
 rw[C]at s1 s2 I f H;dsimp only at s1 s2 I f H;have G:=A52 t i d f B1 B1;have v:=B75 t i d;obtain⟨D,y,B⟩:∃D y,K9 t i d=(D,y):=⟨_,_,rfl⟩
 rw[B]at G v;dsimp only at G v;have J:=pcut_ok c t D d f B1 B1 (by have:=v.1;omega);have A:gX c x r i d=if i7 c=false then (comb0,120) else if e≠0 then (comb0,e) else if y≠0 then (comb0,y) else bR c t D d:=by
  unfold gX;rw[C];dsimp only;rw[B]
 rw[A];refine FnOk.intro Tryz.func71 G6 Z Z Z Z (zz 2 ?_);refine B8 (E6 10 Z) Z (zz 6 ?_);refine D3 (vK c) ?_;refine zc 2 (fun j=>?_) fun j=>?_
 ·have h:i7 c=false:=by simpa using j
  refine zz 6 ?_;refine E2 (B92 CHunk 2 M3 10 3 Z Z) (zz 1 ?_);exact A8 (rs:=[N5 comb0,D2 120]) (S0 rfl rfl rfl rfl rfl rfl rfl) (by rw[A5 h])
 have E:i7 c=true:=by simpa using j
 rw[A6 (by rw[E];decide)];refine zz 5 ?_;refine D3 (H) (zz 3 ?_);refine B8 (E6 12 Z) Z ?_;refine zc 9 (fun j=>?_) fun j=>?_
 ·have z:=A0 j;refine zz 7 ?_;refine E2 (B92 CHunk 2 M3 10 3 Z Z) (zz 1 ?_);exact A8 (rs:=[N5 comb0,D2 e]) (S0 rfl rfl rfl rfl rfl rfl rfl) (by rw[A5 z])
 have z:=A1 j;rw[A6 z];refine zz 6 ?_;refine D3 (G) ?_;refine zc 12 (fun j=>?_) fun j=>?_
 ·have F:=A0 j;refine zz 7 ?_;refine E2 (B92 CHunk 2 M3 10 3 Z Z) (zz 1 ?_);exact A8 (rs:=[N5 comb0,D2 y]) (S0 rfl rfl rfl rfl rfl rfl rfl) (by rw[A5 F])
 have F:=A1 j;rw[A6 F];refine zz 7 ?_;refine D3 (J) (zz 6 ?_);exact A8 (S0 rfl rfl rfl rfl rfl rfl rfl) rfl
def M6(g:Graph)(a:Nat)(t:Str):List Str:=(D8 g a).map fun p=>cU (O8 g p.toNat) t
end Go.Proofs.YtgkjogphmmoakaaGreatDoor
