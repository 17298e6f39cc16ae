/- Walks of the program's functions. -/
import Derived.Test.YtgkjogphmmoakaaGreatDoorFb
set_option linter.all false
namespace Go.Proofs.YtgkjogphmmoakaaGreatDoor
open Go Go.AL
set_option maxRecDepth 100000
set_option maxHeartbeats 1000000
theorem AX:FnOk Tryz.prog 57 [] (fun rs=>rs=[VY formsL]):=by
 refine FnOk.intro Tryz.func57 (by decide) Z Z Z Z ?_;refine k2 ?_;refine A7 (A6 (N2 _ 6 xX) Z (B0 ?_));refine k1 (k2 ?_);refine A7 (A6 (F8 Z) Z (A6 (F8 Z) Z (A6 (F8 Z) Z (A6 (F8 Z) Z (A6 (F8 Z) Z (A6 (F8 Z) Z (A6 (F8 Z) Z (A6 (F8 Z) Z (A6 (F8 Z) Z (A6 (F8 Z) Z (A6 (E0 (c:=xX) (ys:=formsL) (D9 Z Z Z Z (D9 Z Z Z Z (D9 Z Z Z Z (D9 Z Z Z Z (D9 Z Z Z Z (D9 Z Z Z Z (D9 Z Z Z Z (D9 Z Z Z Z (D9 Z Z Z Z (D9 Z Z Z Z H2)))))))))) Z Z Z) Z (A6 (A9 Z Z) Z (B0 ?_)))))))))))));refine k1 (G5 ?_);exact C0 (rs:=[VY formsL]) (H6 rfl rfl rfl) rfl
abbrev UR(l:List Nat):List TC:=l.map fun o=>.ref 6 o
abbrev QB(l:List Nat):Ob:=.growT 122 l.length 1 (UR l)
theorem oS{gf:Fr}{ob:Obs}(f:CForm)(z:D4 ob 751=none)(A:D4 ob 752=none) :
  AL.Met Tryz.prog 58 [(VX f).s1,.one (.ref 6 0)] gf ob [751,752] (fun rs ob'=>rs=[.one (.mut 751)]/\ob'=(751,QB (b9 f))::R1 [751,752] ob):=by
 obtain⟨q,d⟩:∃l:List Nat,l=if f.b=true then [1,2] else [1]:=⟨_,rfl⟩
 have w:b9 f=if f.c=true then q++[3] else q:=by rw[d];unfold b9;cases f.b<;>cases f.c<;>rfl
 have B:q.length<=2:=by rw[d];split<;>decide
 have x:D4 (R1 [751,752] ob) 751=none:=fE z;have a:D4 (R1 [751,752] ob) 752=none:=fE A;refine AL.Met.introH Tryz.func58 (by decide) rfl rfl rfl (fun p=>?_);refine G8 (Sees.forget 751) ?_;refine G8 (Sees.forget 752) ?_;refine G8 (A00 (gf':=E8 [751,752] gf) (l:=[(0,.s (VX f).s1),(1,.s (.one (.ref 6 0)))]) (ob':=R1 [751,752] ob) ⟨B5 rfl,B5 rfl,trivial⟩ (Y1 p) (by repeat (first | exact C5 | refine tail_drop rfl ?_ | refine C3 rfl ?_ | refine gT _ rfl ?_)) (fun _ _ h=>h)) ?_;refine k2 ?_;refine A7 (A6 (ZF Z Z Z) Z (A6 (A9 Z Z) Z (B0 ?_)));refine k1 (k2 ?_);refine A7 (A6 (A8 Z Z) Z (A6 (B7 Z) Z (A6 (B1 Z) Z (D2 (PX 751 Z Z Z Z x Z) Z (A6 (A9 Z Z) Z (B0 ?_))))));refine k1 (k2 (k2 ?_));refine A7 (A6 (L7 Z) Z (A6 (D1 Z Z) Z (B0 ?_)));refine k1 ?_;refine oP ([(1,.s (.one (.ref 6 0))),(2,.s (.one (.eref Unit 6 (fun _ j=>(cellsOf xX f 0 6).getD j (.v undef)) () 0))),(5,.s (.one (.mut 751)))]++E8 [751,752] gf) ([(751,QB q)]++R1 [751,752] ob) ?_ ?_
 ·skip;refine B8 rfl (fun k=>?_) (fun k=>?_)
  ·have hb:f.b=true:=k;rw[A4 hb]at d;subst d;skip;refine A7 (A6 (A8 Z Z) Z (A6 (A8 Z Z) Z (A6 (B7 Z) Z (A6 (B1 Z) Z (D2 (vT 752 Z Z Z Z (by rw[C8 (by decide),M4,a];rfl) Z) Z ?_)))));refine D2 (gR Z Z Z Z (by decide) Z) Z (A6 (A9 Z Z) Z (B0 ?_));refine k1 ?_;exact A00 ⟨B5 rfl,B5 rfl,B5 rfl,trivial⟩ (Y1 p) (by repeat (first | exact C5 | refine tail_drop rfl ?_ | refine C3 rfl ?_ | refine gT _ rfl ?_)) (dZ (L:=[(751,_)]) ⟨rfl,trivial⟩ (by repeat (first | exact bU | refine dD rfl ?_ | refine cV a ?_ | refine rA _ rfl ?_)))
  ·have hb:f.b=false:=k;rw[A5 (by rw[hb];decide)]at d;subst d;refine k5 (k1 ?_);exact A00 ⟨B5 rfl,B5 rfl,B5 rfl,trivial⟩ (Y1 p) (by repeat (first | exact C5 | refine tail_drop rfl ?_ | refine C3 rfl ?_ | refine gT _ rfl ?_)) (dZ (L:=[(751,_)]) ⟨rfl,trivial⟩ (by repeat (first | exact bU | refine dD rfl ?_ | refine cV a ?_ | refine rA _ rfl ?_)))
 refine k2 (k2 ?_);refine A7 (A6 (L7 Z) Z (A6 (D1 Z Z) Z (B0 ?_)));refine k1 ?_;refine oP ([(5,.s (.one (.mut 751)))]++E8 [751,752] gf) ([(751,QB (b9 f))]++R1 [751,752] ob) ?_ ?_
 ·skip;refine B8 rfl (fun k=>?_) (fun k=>?_)
  ·have hb:f.c=true:=k;rw[A4 hb]at w;rw[w];have y:q=[1]\/q=[1,2]:=by
    rw[d];split
    ·exact .inr rfl
    ·exact .inl rfl
   clear d w B;rcases y with rfl | rfl
   ·skip;refine A7 (A6 (A8 Z Z) Z (A6 (A8 Z Z) Z (A6 (B7 Z) Z (A6 (B1 Z) Z (D2 (vT 752 Z Z Z Z a Z) Z (D2 (gR Z Z Z Z (by decide) Z) Z (A6 (A9 Z Z) Z (B0 ?_))))))));refine k1 ?_;exact A00 ⟨B5 rfl,trivial⟩ (Y1 p) (by repeat (first | exact C5 | refine tail_drop rfl ?_ | refine C3 rfl ?_ | refine gT _ rfl ?_)) (dZ (L:=[(751,_)]) ⟨rfl,trivial⟩ (by repeat (first | exact bU | refine dD rfl ?_ | refine cV a ?_ | refine rA _ rfl ?_)))
   ·skip;refine A7 (A6 (A8 Z Z) Z (A6 (A8 Z Z) Z (A6 (B7 Z) Z (A6 (B1 Z) Z (D2 (vT 752 Z Z Z Z a Z) Z (D2 (gR Z Z Z Z (by decide) Z) Z (A6 (A9 Z Z) Z (B0 ?_))))))));refine k1 ?_;exact A00 ⟨B5 rfl,trivial⟩ (Y1 p) (by repeat (first | exact C5 | refine tail_drop rfl ?_ | refine C3 rfl ?_ | refine gT _ rfl ?_)) (dZ (L:=[(751,_)]) ⟨rfl,trivial⟩ (by repeat (first | exact bU | refine dD rfl ?_ | refine cV a ?_ | refine rA _ rfl ?_)))
  ·have hb:f.c=false:=k;rw[A5 (by rw[hb];decide)]at w;rw[w];refine k5 (k1 ?_);exact A00 ⟨B5 rfl,trivial⟩ (Y1 p) (by repeat (first | exact C5 | refine tail_drop rfl ?_ | refine C3 rfl ?_ | refine gT _ rfl ?_)) (dZ (L:=[(751,_)]) ⟨rfl,trivial⟩ (by repeat (first | exact bU | refine dD rfl ?_ | refine cV a ?_ | refine rA _ rfl ?_)))
 refine k2 ?_;refine A7 (A6 (A8 Z Z) Z (A6 (A9 Z Z) Z (B0 ?_)));refine k1 (G5 ?_);exact G1 (O9 rfl rfl) (by repeat (first | exact C5 | refine tail_drop rfl ?_ | refine C3 rfl ?_ | refine gT _ rfl ?_)) (dZ (L:=[(751,_)]) ⟨rfl,trivial⟩ (by repeat (first | exact bU | refine dD rfl ?_ | refine cV a ?_ | refine rA _ rfl ?_))) ⟨rfl,rfl⟩
theorem QC(c:Cmd)(Q:c.Text.length<=1048576):FnOk Tryz.prog 20 [iR c] (fun rs=>rs=[F9 (nQ c).1,E2 (nQ c).2]):=by
 refine FnOk.intro Tryz.func20 (by decide) Z Z Z Z ?_;refine k2 ?_;refine A7 (D2 (Y7 1 Z Z Z) Z (A6 (A9 Z Z) Z (A6 (A9 Z Z) Z (B0 ?_))));refine k1 (k2 (k2 ?_));refine A7 (C4 (AX) Z Z Z ?_);rintro _ rfl;refine A6 (F0 Z (.pure _ _ _ _)) Z (A6 (A8 Z Z) Z (B0 ?_));refine k1 (k3 ?_);refine E3 (X:=Nat) (fun i=>([(1,.s (.one (.ref 1 0))),(10,D7 CForm 6 xX formsL),(11,C7 10),(12,C7 i)],[(1,.box (pT c))])) (fun i=>i<=10/\nQ c=IX c (formsL.drop i)) (fun i=>10-i) 0 ⟨Nat.zero_le _,rfl⟩ (Sees.of ⟨B5 rfl,B5 rfl,B5 rfl,B5 rfl,trivial⟩ ⟨rfl,trivial⟩) ?_;rintro i ⟨hi,A⟩;dsimp only at hi A ⊢;refine k2 ?_;refine A7 (A6 (F2 Z Z) Z (B0 ?_));refine k1 (k2 ?_);refine B8 rfl (fun d=>?_) (fun d=>?_);rotate_left
 ·have S:i=10:=by have:=A1 d;omega
  subst S;refine k6 (k2 ?_);refine A7 (A6 (A9 Z Z) Z (A6 (A9 Z Z) Z (B0 ?_)));refine k1 (G5 ?_);exact C0 (rs:=[F9 [],E2 2]) (R0 rfl rfl rfl rfl rfl) (by rw[A];rfl)
 have D:i<formsL.length:=by have h:=A0 d;show i<10;omega
 obtain⟨f,H⟩:∃f,f=formsL[i]:=⟨_,rfl⟩
 have hv:formsL[i]?=some f:=by rw[H];exact A32 D
 have hw:=SH (A53 hv);rw[A41 D,<-H,IX]at A;refine k5 (k1 (k2 (k3 (k2 ?_))));refine A7 (A6 (C1 Z (.pure _ _ _ _) Z (by omega) hv) Z (A6 (E5 Z Z) Z (D2 (G3 5 Z) Z (F4 (C2 TySz.out Z Z Z Z Z Z) (B0 ?_)))));have y:((if decide (f.kind≠c.Kind)=true then true else !(f.dense == c.Dense))=true)↔(f.kind≠c.Kind\/f.dense≠c.Dense):=by cases f.dense<;>cases c.Dense<;>simp
 refine k1 (k2 (k2 ?_));refine A7 (A6 (B1 Z) Z (A6 (B2 Z Z Z) Z (A6 (B1 Z) Z (A6 (B2 Z Z Z) Z (A6 (K4 Z Z) Z (A6 (A8 Z Z) Z (B4 Z Z Z Z (fun g=>by rw[g];exact B1 Z) ?_)))))));refine B4 Z Z Z Z (fun g=>by rw[g];exact B2 Z Z Z) ?_;refine B4 Z Z Z Z (fun g=>by rw[g];exact B1 Z) ?_;refine B4 Z Z Z Z (fun g=>by rw[g];exact B2 Z Z Z) ?_;refine B4 Z Z Z Z (fun g=>by rw[g];exact WY Z Z TyBool.out) ?_;refine A6 (B9 Z (fun h=>by first | rfl | (rw[h];rfl)) (fun h=>by first | rfl | (rw[h];rfl))) Z ?_;refine B0 ?_;refine k1 ?_;refine B8 rfl (fun d=>?_) (fun d=>?_)
 ·have E:f.kind≠c.Kind\/f.dense≠c.Dense:=y.1 d;rw[A4 E]at A;refine k6 (k7 (k8 Z (k1 ?_)));refine A7 (A6 (C9 Z Z (by omega)) Z (A6 (A8 Z Z) Z (B0 ?_)));refine k1 ?_;exact⟨i+1,⟨D,A⟩,by have:formsL.length=10:=rfl;omega,Sees.of ⟨B5 rfl,B5 rfl,B5 rfl,B5 rfl,trivial⟩ ⟨rfl,trivial⟩⟩
 have E:¬(f.kind≠c.Kind\/f.dense≠c.Dense):=fun h=>by rw[y.2 h]at d;cases d
 rw[A5 E]at A;refine V1 [(1,.s (.one (.ref 1 0))),(5,.s (.one (.ref 5 0))),(10,D7 CForm 6 xX formsL),(11,C7 10),(12,C7 i)] [(1,.box (pT c)),(5,.box (VW f))] (Sees.of ⟨B5 rfl,B5 rfl,B5 rfl,B5 rfl,B5 rfl,trivial⟩ ⟨rfl,rfl,trivial⟩) ?_;refine k5 (k1 (k2 ?_));refine A7 (A6 (E7 Z Z Z) Z (D2 (G3 6 Z) Z (F4 (C2 TySz.out Z Z Z Z Z Z) (B0 ?_))));refine k1 (k2 ?_);refine A7 (A6 (B1 Z) Z (A6 (B2 Z Z Z) Z (A6 (A9 Z Z) Z (B0 ?_))));refine k1 (k2 (k2 ?_));refine A7 (A6 (E7 Z Z Z) Z (R4 (oS f Z Z) Z Z Z ?_));rintro _ _ ⟨rfl,rfl⟩;refine A6 (GI Z Z) Z (A6 (A8 Z Z) Z (B0 ?_));refine k1 (k3 ?_);obtain⟨L,O⟩:∃L,L=b9 f:=⟨_,rfl⟩
 have P:=IV f;rw[<-O]at P ⊢;refine E3 (X:=Nat×Cmd×Str) (fun x=>([(5,.s (.one (.ref 5 0))),(6,.s (.one (.ref 6 0))),(7,P3 x.2.2),(32,.s (.one (.mut 751))),(33,C7 L.length),(34,C7 x.1)],[(5,.box (VW f)),(6,.box (pT x.2.1)),(751,QB L)])) (fun x=>x.1<=L.length/\x.2.2.length<=8+11*x.1/\x.2.1.Text=c.Text/\iS L c f.word=iS (L.drop x.1) x.2.1 x.2.2) (fun x=>L.length-x.1) (0,c,f.word) ⟨Nat.zero_le _,by dsimp only;omega,rfl,rfl⟩ (Sees.of ⟨B5 rfl,B5 rfl,B5 rfl,B5 rfl,B5 rfl,B5 rfl,trivial⟩ ⟨rfl,rfl,rfl,trivial⟩) ?_;rintro⟨j,k,s⟩ ⟨hj,hs,v,z⟩;dsimp only at hj hs v z ⊢;refine k2 ?_;refine A7 (A6 (F2 Z Z) Z (B0 ?_));refine k1 (k2 ?_);refine B8 rfl (fun d=>?_) (fun d=>?_)
 ·have C:j<L.length:=by have:=A0 d;omega
  obtain⟨o,Y⟩:∃o,o=L[j]:=⟨_,rfl⟩
  have M:L[j]?=some o:=by rw[Y];exact A32 C
  have F:=PE (f:=f) (o:=o) (by rw[<-O];exact A53 M);have B:=VZ (c:=k) F;have V:(UR L)[((j:Nat):Int).toNat*1+0]?=some (.ref 6 o):=by rw[A36,Nat.mul_one,Nat.add_zero,A69,M];rfl
  have I:Nat.ble (o+1) 6=true:=by rcases F with rfl | rfl | rfl<;>rfl
  rw[A41 C,<-Y,iS]at z;refine k5 (k1 (k2 (k3 (k2 ?_))));refine A7 (A6 (jX Z Z Z (by omega) (by omega)) Z (A6 (AT Z Z V) Z (A6 (A9 Z Z) Z (B0 ?_))));refine k1 (k2 (k2 ?_));refine A7 (A6 (A8 Z Z) Z (A6 (B7 Z) Z (A6 (B2 Z Z (B)) Z (A6 (F2 Z Z) Z (A6 (A8 Z Z) Z (B4 Z Z Z Z (fun g=>by rw[g];exact A8 Z Z) ?_))))));refine B4 Z Z Z Z (fun g=>by rw[g];exact B7 Z) ?_;refine B4 Z Z Z Z (fun g=>by rw[g];exact B2 Z Z (B)) ?_;refine B4 Z Z Z Z (fun g=>by rw[g];exact P8 Z Z) ?_;refine A6 (B9 Z (fun h=>by first | rfl | (rw[h];rfl)) (fun h=>by first | rfl | (rw[h];rfl))) Z ?_;refine B0 ?_;refine k1 ?_;refine B8 rfl (fun d=>?_) (fun d=>?_)
  ·have G:k.get o<0\/2147483647<k.get o:=A0 (or_pick.symm.trans d);rw[A4 G]at z;refine k2 ?_;refine A7 (A6 (A9 Z Z) Z (A6 (A9 Z Z) Z (B0 ?_)));refine k1 (G5 (I2 (R5 (I2 (I2 (R5 (I2 (R5 (I2 (I2 (R5 (I2 ?_))))))))))));exact C0 (rs:=[F9 [],E2 2]) (R0 rfl rfl rfl rfl rfl) (by rw[A];unfold uF;rw[<-O,z])
  have U:¬(k.get o<0\/2147483647<k.get o):=A1 (or_pick.symm.trans d);rw[A5 U]at z;have ab:=Z4 (k.get o);refine k5 (k1 (k2 ?_));refine A7 (A6 (A8 Z Z) Z (A6 (A8 Z Z) Z (A6 (B7 Z) Z (A6 (B2 Z Z (B)) Z (C4 (t7 (k.get o)) Z Z Z ?_)))));rintro _ rfl;refine A6 (K8 Z Z (by (simp;omega))) Z (A6 (K8 Z Z (by (simp;omega))) Z (A6 (A9 Z Z) Z (B0 ?_)));refine k1 ?_;refine A7 (A6 (A8 Z Z) Z (A6 (B7 Z) Z (F4 (C2 TySz.out Z Z Z Z Z (I)) (B0 ?_))));refine k4 (k1 ?_);refine A7 (A6 (C9 Z Z (by omega)) Z (A6 (A8 Z Z) Z (B0 ?_)));refine k1 ?_;refine⟨(j+1,k.put o 0,s++([32]++M6 (k.get o))),⟨C,?_,?_,z⟩,by dsimp only;omega,(by dsimp only;rw[<-IW 0 F];exact (Sees.of ⟨B5 rfl,B5 rfl,B5 rfl,B5 rfl,B5 rfl,B5 rfl,trivial⟩ ⟨rfl,rfl,rfl,trivial⟩))⟩
  ·dsimp only;simp only[A35,A34,A38];omega
  ·dsimp only;rw[ER];exact v
 have T:j=L.length:=by have:=A1 d;omega
 rw[T,List.drop_length,iS]at z;obtain⟨w,l⟩:∃w:Cmd,w=if f.text=true then { k with Text:=[] } else k:=⟨_,rfl⟩
 obtain⟨s2,q⟩:∃s2:Str,s2=if f.text=true then s++([32]++L9 k.Text) else s:=⟨_,rfl⟩
 have K:nQ c=rW f w s2:=by
  rw[A];unfold uF;rw[<-O,z,l,q];dsimp only;split<;>rfl
 have ac:=bV k.Text;have W:k.Text.length<=1048576:=by rw[v];exact Q
 refine k6 (k2 (k2 ?_));refine A7 (A6 (B1 Z) Z (A6 (B2 Z Z Z) Z (B0 ?_)));refine k1 ?_;refine oP [(5,.s (.one (.ref 5 0))),(6,.s (.one (.ref 6 0))),(7,P3 s2)] [(5,.box (VW f)),(6,.box (pT w))] ?_ ?_
 ·skip;refine B8 rfl (fun d=>?_) (fun d=>?_)
  ·have hb:f.text=true:=d;rw[A4 hb]at l q;subst l q;refine k2 ?_;refine A7 (A6 (A8 Z Z) Z (A6 (B1 Z) Z (A6 (B2 Z Z Z) Z (C4 (fZ k.Text (by rw[v];omega)) Z Z Z ?_))));rintro _ rfl;refine A6 (K8 Z Z (by (simp;omega))) Z (A6 (K8 Z Z (by (simp;omega))) Z (A6 (A9 Z Z) Z (B0 ?_)));refine k1 ?_;refine A7 (A6 (B1 Z) Z (F4 (C2 TySz.out Z Z Z Z Z Z) (B0 ?_)));refine k1 ?_;exact Sees.of ⟨B5 rfl,B5 rfl,B5 rfl,trivial⟩ ⟨rfl,rfl,trivial⟩
  ·have hb:f.text=false:=d;rw[A5 (by rw[hb];decide)]at l q;subst l q;refine k5 (k1 ?_);exact Sees.of ⟨B5 rfl,B5 rfl,B5 rfl,trivial⟩ ⟨rfl,rfl,trivial⟩
 refine k2 (k2 ?_);refine A7 (A6 (E7 Z Z Z) Z (A6 (B1 Z) Z (A6 (B2 Z Z Z) Z (A6 (B1 Z) Z (A6 (B2 Z Z Z) Z (A6 (F8 Z) Z (A6 (TQ (VV w) (VV ⟨f.kind,0,0,0,f.dense,[]⟩) Z Z Z Z (ZQ w ⟨f.kind,0,0,0,f.dense,[]⟩)) Z (B0 ?_))))))));refine k1 ?_;refine B8 rfl (fun d=>?_) (fun d=>?_)
 ·have J:¬w=⟨f.kind,0,0,0,f.dense,[]⟩:=by simpa using d
  refine k2 ?_;refine A7 (A6 (A9 Z Z) Z (A6 (A9 Z Z) Z (B0 ?_)));refine k1 (G5 (I2 (R5 (I2 (I2 (R5 (I2 ?_)))))));exact C0 (rs:=[F9 [],E2 2]) (R0 rfl rfl rfl rfl rfl) (by rw[K];unfold rW;rw[A5 J])
 ·have R:w=⟨f.kind,0,0,0,f.dense,[]⟩:=by simpa using d
  refine k5 (k1 (k2 ?_));refine A7 (A6 (A8 Z Z) Z (A6 (A9 Z Z) Z (A6 (A9 Z Z) Z (B0 ?_))));refine k1 (G5 (R5 (I2 (I2 (R5 (I2 ?_))))));exact C0 (rs:=[F9 s2,E2 0]) (R0 rfl rfl rfl rfl rfl) (by rw[K];unfold rW;rw[A4 R])
theorem gD{s:Str}{i:Nat}(h:i<s.length):s[i]?=some (s.getD i 0):=by simp[h]
def oU(s:Str)(i:Nat):Bool:=decide ((i<s.length/\48<=(s.getD i 0).toNat)/\(s.getD i 0).toNat<=57)
theorem LL(s:Str)(i:Nat):oU s i=match s[i]? with | some c=>o5 c | none=>false:=by
 unfold oU o5;by_cases h:i<s.length
 ·rw[gD h];simp[h]
 ·rw[A52 (by omega)];simp[h]
theorem digs_le(s:Str)(i:Nat):(N1 (s.drop i)).length<=s.length-i:=by
 unfold N1;have:=(List.takeWhile_sublist o5 (l:=s.drop i)).length_le;rw[A47]at this;exact this
theorem aB{p:UInt8->Bool}:∀(s:Str) (k:Nat),k<=(s.takeWhile p).length->(match s[k]? with | some c=>p c | none=>false)=decide (k<(s.takeWhile p).length)
 | [],k,h=>by simp at h ⊢
 | c::r,0,h=>by by_cases a:p c=true<;>simp[List.takeWhile_cons,a]
 | c::r,k+1,h=>by
  by_cases a:p c=true
  ·rw[List.takeWhile_cons,A4 a,A34]at h ⊢;have:=aB (p:=p) r k (by omega);rw[List.getElem?_cons_succ,this];simp
  ·rw[List.takeWhile_cons,A5 a]at h;simp at h
theorem mK{p:UInt8->Bool}:∀(s:Str) (k:Nat),k<(s.takeWhile p).length->s[k]?=(s.takeWhile p)[k]?
 | [],k,h=>by simp at h
 | c::r,k,h=>by
  by_cases a:p c=true
  ·rw[List.takeWhile_cons,A4 a]at h ⊢;cases k with
   | zero=>rfl
   | succ k=>rw[List.getElem?_cons_succ,List.getElem?_cons_succ];exact mK (p:=p) r k (by simpa using h)
  ·rw[List.takeWhile_cons,A5 a]at h;simp at h
theorem AY(s:Str)(i k:Nat)(h:k<=(N1 (s.drop i)).length):oU s (i+k)=decide (k<(N1 (s.drop i)).length):=by
 rw[LL,<-A60];exact aB (s.drop i) k h
theorem QD{s:Str}{i k:Nat}(h:k<(N1 (s.drop i)).length):s[i+k]?=some ((N1 (s.drop i)).getD k 0)/\48<=((N1 (s.drop i)).getD k 0).toNat/\((N1 (s.drop i)).getD k 0).toNat<=57 /\
  dU ((N1 (s.drop i)).take (k+1))=10*dU ((N1 (s.drop i)).take k)+(((N1 (s.drop i)).getD k 0).toNat-48):=by
 have d:s[i+k]?=(N1 (s.drop i))[k]?:=by rw[<-A60];exact mK _ _ h
 have c:=gD h;have b:o5 ((N1 (s.drop i)).getD k 0)=true:=by
  have m:(N1 (s.drop i)).getD k 0∈(s.drop i).takeWhile o5:=A53 c;exact List.all_eq_true.1 List.all_takeWhile _ m
 unfold o5 at b;have b:=A0 b;refine⟨by rw[d,c],b.1,b.2,?_⟩;obtain⟨j,f⟩:=List.getElem?_eq_some_iff.1 c;rw[A55 j,BW,f]
theorem HC(n:Nat)(h:48<=n)(b:n<=57):IntKind.i64.wrap (IntKind.u8.wrap ((n:Int)-48))=((n-48:Nat):Int):=by
 have:∀k:Fin 10,IntKind.i64.wrap (IntKind.u8.wrap (((k.1+48:Nat):Int)-48))=((k.1:Nat):Int):=by decide
 have a:=this ⟨n-48,by omega⟩;dsimp only at a;rw[show n-48+48=n by omega]at a;exact a
def HD(s:Str)(i:Nat):List PV:=match p7 (s.drop i) with
 | none=>[E2 0,E2 0,F3 false]
 | some (n,k)=>[E2 n,E2 ((i+k:Nat):Int),F3 true]
theorem kX{s:Str}{n k:Nat}(h:p7 s=some (n,k)):k=(N1 s).length/\n=dU (N1 s)/\0<k/\k<=s.length/\n<=2147483647:=by
 unfold p7 at h;split at h
 ·cases h
 ·rename_i a;cases h;have b:N1 s≠[]:=fun e=>a (.inl e);have c:=List.length_pos_iff.2 b;have d:(N1 s).length<=s.length:=by unfold N1;exact (List.takeWhile_sublist o5).length_le
  refine⟨rfl,rfl,c,d,?_⟩;by_cases f:dU (N1 s)<=2147483647
  ·exact f
  ·exact absurd (.inr (.inr (by omega))) a
theorem AZ(s:Str)(i:Nat):FnOk Tryz.prog 236 [F9 s,E2 i] (fun rs=>rs=[F3 (oU s i)]):=by
 refine FnOk.intro Tryz.func236 (by decide) Z Z Z Z ?_;refine k2 ?_;refine A7 (A6 (A9 Z Z) Z (B0 ?_));refine k1 (k2 ?_);refine A7 (A6 (A8 Z Z) Z (A6 (A8 Z Z) Z (A6 (G4 Z) Z (A6 (F2 Z Z) Z (A6 (A8 Z Z) Z (B4 Z Z Z Z (fun a=>by rw[a];exact A8 Z Z) ?_))))));refine B4 Z Z Z Z (fun a=>by rw[a];exact A8 Z Z) ?_;refine B4 Z Z Z Z (fun a=>by have b:=a;(try simp at b);rw[a];exact K0 Z Z (by omega) (gD (by omega))) ?_;refine B4 Z Z Z Z (fun a=>by rw[a];exact x9 Z Z) ?_;refine A6 (B9 Z (fun h=>by first | rfl | (rw[h];rfl)) (fun h=>by first | rfl | (rw[h];rfl))) Z ?_;refine A6 (A8 Z Z) Z (B4 Z Z Z Z (fun a=>by rw[a];exact A8 Z Z) ?_);refine B4 Z Z Z Z (fun a=>by rw[a];exact A8 Z Z) ?_;refine B4 Z Z Z Z (fun a=>by have b:=a;(try simp at b);rw[a];exact K0 Z Z (by omega) (gD (by omega))) ?_;refine B4 Z Z Z Z (fun a=>by rw[a];exact fP Z Z) ?_;refine A6 (B9 Z (fun h=>by first | rfl | (rw[h];rfl)) (fun h=>by first | rfl | (rw[h];rfl))) Z ?_;refine A6 (A9 Z Z) Z (B0 ?_);refine k1 (G5 ?_);refine C0 (H6 Z Z Z) ?_;simp only[and_pick];unfold oU
 congr 4
 congr 1
 simp;omega
theorem gY(s:Str)(i:Nat)(Y:i<=s.length)(hs:s.length<=1073741824):FnOk Tryz.prog 157 [F9 s,E2 i] (fun rs=>rs=HD s i):=by
 obtain⟨f,j⟩:∃f,f=N1 (s.drop i):=⟨_,rfl⟩
 have M:=digs_le s i;have I:=AY s i 0 (Nat.zero_le _);rw[Nat.add_zero]at I;rw[<-j]at M I;refine FnOk.intro Tryz.func157 (by decide) Z Z Z Z ?_;refine k2 ?_;refine A7 (A6 (A9 Z Z) Z (A6 (A9 Z Z) Z (A6 (A9 Z Z) Z (B0 ?_))));refine k1 (k2 (k2 ?_));refine A7 (A6 (A8 Z Z) Z (A6 (F2 Z Z) Z (A6 (A8 Z Z) Z (B4 Z Z Z Z (fun b=>by rw[b];exact A8 Z Z) ?_))));refine B4 Z Z Z Z (fun b=>by rw[b];exact A8 Z Z) ?_;refine B4 Z Z Z Z (fun b=>by have C:=b;(try simp at C);rw[b];exact H4 (AZ s i) Z Z) ?_;refine B4 Z Z Z Z (fun b=>by rw[b];exact G7 Z) ?_;refine A6 (B9 Z (fun h=>by first | rfl | (rw[h];rfl)) (fun h=>by first | rfl | (rw[h];rfl))) Z ?_;refine B0 ?_;rw[I];refine k1 ?_;by_cases P:f.length=0
 ·refine B8 rfl (fun w=>?_) (fun w=>?_);rotate_left
  ·exfalso;revert w;simp[P]
  refine k2 ?_;refine A7 (A6 (A9 Z Z) Z (A6 (A9 Z Z) Z (A6 (A9 Z Z) Z (B0 ?_))));refine k1 (G5 (I2 ?_));refine C0 (rs:=[E2 0,E2 0,F3 false]) (FI Z Z Z Z Z Z Z) ?_;unfold HD p7;rw[<-j,A4 (.inl (List.length_eq_zero_iff.1 P))]
 refine B8 rfl (fun w=>?_) (fun w=>?_)
 ·exfalso;revert w;simp[show 0<f.length by omega]
 refine k5 (k1 (k2 ?_));refine A7 (A6 (A8 Z Z) Z (A6 (A9 Z Z) Z (A6 (A9 Z Z) Z (B0 ?_))));refine k1 (k2 (k3 ?_));refine E3 (X:=Nat) (fun k=>([(0,P3 s),(1,C7 i),(7,C7 ((min (dU (f.take k)) 2147483648:Nat):Int)),(8,C7 ((i+k:Nat):Int))],[])) (fun k=>k<=f.length) (fun k=>f.length-k) 0 (Nat.zero_le _) (Sees.of ⟨B5 rfl,B5 rfl,B5 rfl,B5 rfl,trivial⟩ trivial) ?_;intro k R;dsimp only at R ⊢;have y:=AY s i k (by rw[<-j];exact R);rw[<-j]at y;refine k2 (k2 ?_);refine A7 (A6 (A8 Z Z) Z (A6 (A8 Z Z) Z (C4 (AZ s (i+k)) Z Z Z ?_)));rintro _ rfl;refine B0 ?_;rw[y];refine k1 ?_;refine B8 rfl (fun w=>?_) (fun w=>?_)
 ·have A:k<f.length:=A0 w;obtain⟨g1,F,G,H⟩:=QD (s:=s) (i:=i) (k:=k) (by rw[<-j];exact A);rw[<-j]at g1 F G H;obtain⟨c,U⟩:∃c,c=f.getD k 0:=⟨_,rfl⟩
  rw[<-U]at g1 F G H;obtain⟨v,O⟩:∃v,v=min (dU (f.take k)) 2147483648:=⟨_,rfl⟩
  have V:v<=2147483648:=by omega
  have B:min (dU (f.take (k+1))) 2147483648=min (10*v+(c.toNat-48)) 2147483648:=by rw[H];omega
  rw[<-O];have z:=HC c.toNat F G;refine k5 (k1 (k2 (k3 ?_)));refine A7 (A6 (A8 Z Z) Z (A6 (dV Z Z (by omega)) Z (A6 (A8 Z Z) Z (A6 (A8 Z Z) Z (A6 (K0 Z Z (by omega) g1) Z (A6 (CN Z Z) Z (A6 (U3 Z) Z (A6 (C9 Z Z (by (rw[z];omega))) Z ?_))))))));refine A6 (uS Z Z) Z (A6 (A9 Z Z) Z (B0 ?_));refine k4 (k1 ?_);refine A7 (A6 (A8 Z Z) Z (A6 (C9 Z Z (by omega)) Z (A6 (A9 Z Z) Z (B0 ?_))));refine k1 ?_;refine⟨k+1,A,by omega,?_⟩;rw[B];refine Sees.of ⟨⟨_,rfl,.same _⟩,⟨_,rfl,.same _⟩,⟨_,rfl,.eq ?_⟩,⟨_,rfl,.eq ?_⟩,trivial⟩ trivial
  ·rw[z]
   congr 6
   split<;>omega
  ·congr 6
 ·have L:k=f.length:=by have:¬k<f.length:=A1 w;omega
  subst L;rw[A44];have D:i<s.length:=by omega
  refine k6 (k2 (k2 ?_));refine A7 (A6 (A8 Z Z) Z (A6 (P8 Z Z) Z (A6 (A8 Z Z) Z (B4 Z Z Z Z (fun b=>by rw[b];exact A8 Z Z) ?_))));refine B4 Z Z Z Z (fun b=>by rw[b];exact A8 Z Z) ?_;refine B4 Z Z Z Z (fun b=>by have C:=b;(try simp at C);rw[b];exact K0 Z Z (by omega) (gD D)) ?_;refine B4 Z Z Z Z (fun b=>by rw[b];exact I3 Z Z) ?_;refine B4 Z Z Z Z (fun b=>by rw[b];exact A8 Z Z) ?_;refine M5 Z Z Z (.gd (.val _)) Z (fun b=>by obtain⟨p,u⟩:=T9 b;(try rw[p]);(try rw[u]);exact A8 Z Z) ?_;refine M5 Z Z Z (.gd (.val _)) Z (fun b=>by obtain⟨p,u⟩:=T9 b;(try rw[p]);(try rw[u]);exact A8 Z Z) ?_;refine M5 Z Z Z (.gd (.val _)) Z (fun b=>by have C:=b;(try simp at C);obtain⟨p,u⟩:=T9 b;(try rw[p]);(try rw[u]);exact C9 Z Z (by omega)) ?_;refine M5 Z Z Z (.gd (.val _)) Z (fun b=>by obtain⟨p,u⟩:=T9 b;(try rw[p]);(try rw[u]);exact P8 Z Z) ?_;refine B4 Z Z Z Z (fun b=>by rw[b];exact B9 Z (fun h=>by first | rfl | (rw[h];rfl)) (fun h=>by first | rfl | (rw[h];rfl))) ?_;refine A6 (B9 Z (fun h=>by first | rfl | (rw[h];rfl)) (fun h=>by first | rfl | (rw[h];rfl))) Z ?_;refine B0 ?_;refine k1 ?_;have K:(s.drop i).head?=some (s.getD i 0):=by rw[List.head?_drop,gD D]
  simp only[and_pick,or_pick];have x:(N1 (s.drop i)=[]\/((s.drop i).head?=some 48/\1<(N1 (s.drop i)).length)\/2147483647<dU (N1 (s.drop i)))↔(2147483647<((min (dU f) 2147483648:Nat):Int)\/(((s.getD i 0).toNat:Int)=48/\(i:Int)+1<((i+f.length:Nat):Int))):=by
   rw[<-j,K];have S:f≠[]:=fun e=>P (by rw[e];rfl);have T:(some (s.getD i 0)=some 48)↔((s.getD i 0).toNat:Int)=48:=by
    rw[Option.some.injEq,<-UInt8.toNat_inj];have:(48:UInt8).toNat=48:=rfl;omega
   simp only[S,false_or,T];omega
  refine B8 rfl (fun w=>?_) (fun w=>?_)
  ·have E:=A0 w;refine k2 ?_;refine A7 (A6 (A9 Z Z) Z (A6 (A9 Z Z) Z (A6 (A9 Z Z) Z (B0 ?_))));refine k1 (G5 (I2 ?_));refine C0 (rs:=[E2 0,E2 0,F3 false]) (FI Z Z Z Z Z Z Z) ?_;unfold HD p7;rw[A4 (x.2 (by first | exact E | simpa using E))]
  ·have E:=A1 w;have J:¬(N1 (s.drop i)=[]\/((s.drop i).head?=some 48/\1<(N1 (s.drop i)).length)\/2147483647<dU (N1 (s.drop i))):=fun Q=>E (by first | exact x.1 Q | simpa using x.1 Q);refine k5 (k1 (k2 ?_));refine A7 (A6 (A8 Z Z) Z (A6 (A8 Z Z) Z (A6 (A9 Z Z) Z (A6 (A9 Z Z) Z (A6 (A9 Z Z) Z (B0 ?_))))));refine k1 (G5 ?_);refine C0 (rs:=[E2 ((min (dU f) 2147483648:Nat):Int),E2 ((i+f.length:Nat):Int),F3 true]) (FI Z Z Z Z Z Z Z) ?_;unfold HD p7;rw[A5 J,<-j];have W:dU f<=2147483647:=by
    rw[<-j]at J;by_cases O:dU f<=2147483647
    ·exact O
    ·exact absurd (.inr (.inr (by omega))) J
   rw[show min (dU f) 2147483648=dU f by omega]
def LM(s:Str)(i:Nat):List PV:=match dN (s.drop i) with
 | none=>[E2 0,E2 0,E2 0,F3 false]
 | some (a,n,k)=>[E2 a,E2 n,E2 ((i+k:Nat):Int),F3 true]
theorem rB{s:Str}{i n k:Nat}(h:p7 (s.drop i)=some (n,k)):HD s i=[E2 n,E2 ((i+k:Nat):Int),F3 true]:=by unfold HD;rw[h]
theorem rC{s:Str}{i:Nat}(h:p7 (s.drop i)=none):HD s i=[E2 0,E2 0,F3 false]:=by unfold HD;rw[h]
theorem QE(s:Str)(i:Nat)(J:i<=s.length)(hs:s.length<=1073741824):FnOk Tryz.prog 238 [F9 s,E2 i] (fun rs=>rs=LM s i):=by
 have C:=gY s i J hs;cases A:p7 (s.drop i) with
 | none =>
  rw[rC A]at C;refine FnOk.intro Tryz.func238 (by decide) Z Z Z Z ?_;refine k2 ?_;refine A7 (A6 (A9 Z Z) Z (A6 (A9 Z Z) Z (A6 (A9 Z Z) Z (A6 (A9 Z Z) Z (B0 ?_)))));refine k1 (k2 ?_);refine A7 (A6 (A8 Z Z) Z (A6 (A8 Z Z) Z (C4 (C) Z Z Z ?_)));rintro _ rfl;refine A6 (A8 Z Z) Z (A6 (B6 Z Z) Z (A6 (B6 Z Z) Z (A6 (B6 Z Z) Z (A6 (A9 Z Z) Z (A6 (A9 Z Z) Z (A6 (A9 Z Z) Z (B0 ?_)))))));refine k1 (k2 (k2 ?_));refine A7 (A6 (A8 Z Z) Z (A6 (G7 Z) Z (B0 ?_)));refine k1 ?_;refine B8 rfl (fun f=>?_) (fun f=>?_)
  ·refine k2 ?_;refine A7 (A6 (A9 Z Z) Z (A6 (A9 Z Z) Z (A6 (A9 Z Z) Z (A6 (A9 Z Z) Z (B0 ?_)))));refine k1 (G5 (I2 ?_));exact C0 (XF rfl rfl rfl rfl rfl rfl rfl rfl rfl) (by unfold LM dN;rw[A])
  ·cases f
 | some p =>
  obtain⟨a,k⟩:=p;rw[rB A]at C;obtain⟨_,_,K,E,ha⟩:=kX A;rw[A47]at E;have u:(s.drop i)[k]?=s[i+k]?:=by rw[A60]
  have D:(s.drop i).drop (k+1)=s.drop (i+k+1):=by rw[List.drop_drop];rfl
  have y:decide (((i+k:Nat):Int)<(s.length:Int)/\((s.getD (i+k) 0).toNat:Int)=44)=decide (s[i+k]?=some 44):=by
   have:(44:UInt8).toNat=44:=rfl
   congr 1
   by_cases x:i+k<s.length
   ·rw[gD x,Option.some.injEq,<-UInt8.toNat_inj];apply propext;constructor<;>intro h<;>omega
   ·rw[A52 (by omega)];apply propext;constructor<;>intro h
    ·omega
    ·cases h
  have B:(s[i+k]?=some 44/\p7 (s.drop (i+k+1))=none)\/(∃c e,((∃z,s[i+k]?=some 44/\p7 (s.drop (i+k+1))=some (c,z)/\e=k+1+z)\/(s[i+k]?≠some 44/\c=1/\e=k))/\i+e<=s.length/\c<=2147483647/\dN (s.drop i)=kK (s.drop i) a c e):=by
   by_cases b:s[i+k]?=some 44
   ·have x:=(List.getElem?_eq_some_iff.1 b).1;cases v:p7 (s.drop (i+k+1)) with
    | none=>exact .inl ⟨b,rfl⟩
    | some q =>
     obtain⟨c,z⟩:=q;obtain⟨_,_,L,F,j⟩:=kX v;rw[A47]at F;refine .inr ⟨c,k+1+z,.inl ⟨z,b,rfl,rfl⟩,by omega,j,?_⟩;unfold dN;rw[A];dsimp only;rw[u,A4 b,D,v]
   ·refine .inr ⟨1,k,.inr ⟨b,rfl,rfl⟩,by omega,by omega,?_⟩;unfold dN;rw[A];dsimp only;rw[u,A5 b]
  rcases B with ⟨b,v⟩ | ⟨c,e,hce,hel,hcb,hfin⟩
  ·have x:=(List.getElem?_eq_some_iff.1 b).1;have j:=gY s (i+k+1) (by omega) hs;rw[rC v,show ((i+k+1:Nat):Int)=((i+k:Nat):Int)+1 by omega]at j;refine FnOk.intro Tryz.func238 (by decide) Z Z Z Z ?_;refine k2 ?_;refine A7 (A6 (A9 Z Z) Z (A6 (A9 Z Z) Z (A6 (A9 Z Z) Z (A6 (A9 Z Z) Z (B0 ?_)))));refine k1 (k2 ?_);refine A7 (A6 (A8 Z Z) Z (A6 (A8 Z Z) Z (C4 (C) Z Z Z ?_)));rintro _ rfl;refine A6 (A8 Z Z) Z (A6 (B6 Z Z) Z (A6 (B6 Z Z) Z (A6 (B6 Z Z) Z (A6 (A9 Z Z) Z (A6 (A9 Z Z) Z (A6 (A9 Z Z) Z (B0 ?_)))))));refine k1 (k2 (k2 ?_));refine A7 (A6 (A8 Z Z) Z (A6 (G7 Z) Z (B0 ?_)));refine k1 ?_;refine B8 rfl (fun f=>?_) (fun f=>?_)
   ·cases f
   refine k5 (k1 (k2 ?_));refine A7 (A6 (A9 Z Z) Z (B0 ?_));refine k1 (k2 (k2 ?_));refine A7 (A6 (A8 Z Z) Z (A6 (A8 Z Z) Z (A6 (G4 Z) Z (A6 (F2 Z Z) Z (A6 (A8 Z Z) Z (B4 Z Z Z Z (fun g=>by rw[g];exact A8 Z Z) ?_))))));refine B4 Z Z Z Z (fun g=>by rw[g];exact A8 Z Z) ?_;refine B4 Z Z Z Z (fun g=>by have G:=g;(try simp at G);rw[g];exact K0 Z Z (by omega) (gD (by omega))) ?_;refine B4 Z Z Z Z (fun g=>by rw[g];exact I3 Z Z) ?_;refine A6 (B9 Z (fun h=>by first | rfl | (rw[h];rfl)) (fun h=>by first | rfl | (rw[h];rfl))) Z ?_;refine B0 ?_;simp only[and_pick,A36];rw[y];refine k1 ?_;refine B8 rfl (fun f=>?_) (fun f=>?_)
   ·refine k2 ?_;refine A7 (A6 (A8 Z Z) Z (A6 (A8 Z Z) Z (A6 (C9 Z Z (by omega)) Z (C4 (j) Z Z Z ?_))));rintro _ rfl;refine A6 (A8 Z Z) Z (A6 (B6 Z Z) Z (A6 (B6 Z Z) Z (A6 (B6 Z Z) Z (A6 (A9 Z Z) Z (A6 (A9 Z Z) Z (A6 (A9 Z Z) Z (B0 ?_)))))));refine k1 (k2 ?_);refine A7 (A6 (A8 Z Z) Z (A6 (G7 Z) Z (B0 ?_)));refine k1 ?_;refine B8 rfl (fun f=>?_) (fun f=>?_)
    ·refine k2 ?_;refine A7 (A6 (A9 Z Z) Z (A6 (A9 Z Z) Z (A6 (A9 Z Z) Z (A6 (A9 Z Z) Z (B0 ?_)))));refine k1 (G5 (I2 ?_));refine C0 (rs:=[E2 0,E2 0,E2 0,F3 false]) (XF Z Z Z Z Z Z Z Z Z) ?_;unfold LM dN;rw[A];dsimp only;rw[u,A4 b,D,v]
    ·cases f
   ·exact absurd b (A1 f)
  ·obtain⟨st,m⟩:∃st:Int,st=if 0<c then (a:Int)-1 else a:=⟨_,rfl⟩
   have I:-1<=st/\st<=2147483647:=by rw[m];split<;>omega
   have H:=qW st c (by omega) (by omega);refine FnOk.intro Tryz.func238 (by decide) Z Z Z Z ?_;refine k2 ?_;refine A7 (A6 (A9 Z Z) Z (A6 (A9 Z Z) Z (A6 (A9 Z Z) Z (A6 (A9 Z Z) Z (B0 ?_)))));refine k1 (k2 ?_);refine A7 (A6 (A8 Z Z) Z (A6 (A8 Z Z) Z (C4 (C) Z Z Z ?_)));rintro _ rfl;refine A6 (A8 Z Z) Z (A6 (B6 Z Z) Z (A6 (B6 Z Z) Z (A6 (B6 Z Z) Z (A6 (A9 Z Z) Z (A6 (A9 Z Z) Z (A6 (A9 Z Z) Z (B0 ?_)))))));refine k1 (k2 (k2 ?_));refine A7 (A6 (A8 Z Z) Z (A6 (G7 Z) Z (B0 ?_)));refine k1 ?_;refine B8 rfl (fun f=>?_) (fun f=>?_)
   ·cases f
   refine k5 (k1 (k2 ?_));refine A7 (A6 (A9 Z Z) Z (B0 ?_));refine K6 ?_;refine y4 [(0,P3 s),(1,C7 i),(8,C7 a),(9,C7 ((i+e:Nat):Int)),(11,C7 c)] [] ?_ ?_
   ·refine k2 ?_;refine A7 (A6 (A8 Z Z) Z (A6 (A8 Z Z) Z (A6 (G4 Z) Z (A6 (F2 Z Z) Z (A6 (A8 Z Z) Z (B4 Z Z Z Z (fun g=>by rw[g];exact A8 Z Z) ?_))))));refine B4 Z Z Z Z (fun g=>by rw[g];exact A8 Z Z) ?_;refine B4 Z Z Z Z (fun g=>by have G:=g;(try simp at G);rw[g];exact K0 Z Z (by omega) (gD (by omega))) ?_;refine B4 Z Z Z Z (fun g=>by rw[g];exact I3 Z Z) ?_;refine A6 (B9 Z (fun h=>by first | rfl | (rw[h];rfl)) (fun h=>by first | rfl | (rw[h];rfl))) Z ?_;refine B0 ?_;simp only[and_pick,A36];rw[y];refine k1 ?_;refine B8 rfl (fun f=>?_) (fun f=>?_)
    ·have b:=A0 f;have x:=(List.getElem?_eq_some_iff.1 b).1;rcases hce with ⟨z,_,v,M⟩ | ⟨hn,_⟩
     ·have j:=gY s (i+k+1) (by omega) hs;rw[rB v,show ((i+k+1:Nat):Int)=((i+k:Nat):Int)+1 by omega,show i+k+1+z=i+e by omega]at j;refine k2 ?_;refine A7 (A6 (A8 Z Z) Z (A6 (A8 Z Z) Z (A6 (C9 Z Z (by omega)) Z (C4 (j) Z Z Z ?_))));rintro _ rfl;refine A6 (A8 Z Z) Z (A6 (B6 Z Z) Z (A6 (B6 Z Z) Z (A6 (B6 Z Z) Z (A6 (A9 Z Z) Z (A6 (A9 Z Z) Z (A6 (A9 Z Z) Z (B0 ?_)))))));refine k1 (k2 ?_);refine A7 (A6 (A8 Z Z) Z (A6 (G7 Z) Z (B0 ?_)));refine k1 ?_;refine B8 rfl (fun f=>?_) (fun f=>?_)
      ·cases f
      refine k5 (k1 ?_);exact Sees.of ⟨B5 rfl,B5 rfl,B5 rfl,B5 rfl,B5 rfl,trivial⟩ trivial
     ·exact absurd b hn
    ·have b:=A1 f;rcases hce with ⟨z,w,_⟩ | ⟨_,v,w⟩
     ·exact absurd w b
     ·subst v;subst w;refine k5 (k1 ?_);exact Sees.of ⟨B5 rfl,B5 rfl,B5 rfl,B5 rfl,B5 rfl,trivial⟩ trivial
   refine y4 [(0,P3 s),(1,C7 i),(8,C7 st),(9,C7 ((i+e:Nat):Int)),(11,C7 c)] [] ?_ ?_
   ·refine k2 ?_;refine A7 (A6 (A8 Z Z) Z (A6 (P8 Z Z) Z (B0 ?_)));refine k1 ?_;refine B8 rfl (fun f=>?_) (fun f=>?_)
    ·have w:(0:Int)<(c:Int):=A0 f;rw[A4 (by omega)]at m;skip;refine A7 (A6 (A8 Z Z) Z (A6 (K3 Z Z (by omega)) Z (A6 (A9 Z Z) Z (B0 ?_))));rw[<-m];refine k1 ?_;exact Sees.of ⟨B5 rfl,B5 rfl,B5 rfl,B5 rfl,B5 rfl,trivial⟩ trivial
    ·have w:¬(0:Int)<(c:Int):=A1 f;rw[A5 (by omega)]at m;rw[m];refine k5 (k1 ?_);exact Sees.of ⟨B5 rfl,B5 rfl,B5 rfl,B5 rfl,B5 rfl,trivial⟩ trivial
   unfold kK at hfin;rw[<-m]at hfin;refine k2 (k2 ?_);refine D8 (by kernel_rfl) (by kernel_rfl) (B3 (A8 Z Z) Z Z (B3 (A8 Z Z) Z Z (B3 (H4 (H) Z Z) Z Z (B3 (A8 Z Z) Z Z (B3 (A8 Z Z) Z Z (B3 (A8 Z Z) Z Z (B3 (fQ Z Z Z (by omega) (by omega) (by omega)) Z Z (B3 (bF Z Z) Z Z (J8 ?_)))))))));rw[show ((i:Int)).toNat=i by omega,show (((i+e:Nat):Int)).toNat-i=e by omega];refine k1 ?_;refine B8 rfl (fun f=>?_) (fun f=>?_)
   ·have w:¬J7 st c=(s.drop i).take e:=A0 f;refine k2 ?_;refine A7 (A6 (A9 Z Z) Z (A6 (A9 Z Z) Z (A6 (A9 Z Z) Z (A6 (A9 Z Z) Z (B0 ?_)))));refine k1 (G5 (I2 ?_));refine C0 (rs:=[E2 0,E2 0,E2 0,F3 false]) (XF Z Z Z Z Z Z Z Z Z) ?_;rw[A5 w]at hfin;unfold LM;rw[hfin]
   ·have w:J7 st c=(s.drop i).take e:=Decidable.not_not.1 (A1 f);refine k5 (k1 (k2 ?_));refine A7 (A6 (A8 Z Z) Z (A6 (A8 Z Z) Z (A6 (A8 Z Z) Z (A6 (A9 Z Z) Z (A6 (A9 Z Z) Z (A6 (A9 Z Z) Z (A6 (A9 Z Z) Z (B0 ?_))))))));refine k1 (G5 ?_);refine C0 (rs:=[E2 st,E2 c,E2 ((i+e:Nat):Int),F3 true]) (XF Z Z Z Z Z Z Z Z Z) ?_;rw[A4 w]at hfin;unfold LM;rw[hfin]
abbrev W9(s:Str)(i:Nat):Ob:=.box [.p (.v (.string ⟨s.toArray⟩)),.p (.v (.int .i64 (i:Int)))]
abbrev t8(x:Int):S1:=.one (.p (.v (.int .u8 x)))
abbrev LN(b:Bool):S1:=.one (.p (.v (.bool b)))
def HF(c:UInt8):Prop:=48<=c.toNat/\c.toNat<=55
def lR(s:Str)(i:Nat):Nat->Nat
 | 0=>0
 | q+1=>8*lR s i q+((s.getD (i+q) 0).toNat-48)
def R7(s:Str)(i q:Nat):Prop:=i+q<s.length/\HF (s.getD (i+q) 0)
instance (s:Str) (i q:Nat):Decidable (R7 s i q):=by unfold R7 HF;exact inferInstance
def zF(s:Str)(i:Nat):Option UInt8:=if (R7 s i 0/\R7 s i 1/\R7 s i 2)/\lR s i 3<256 then some (UInt8.ofNat (lR s i 3)) else none
theorem rD{s:Str}{i q:Nat}(d:q<3)(h:¬R7 s i q):zF s i=none:=by
 unfold zF;rw[A5];rintro⟨⟨a,b,c⟩,_⟩;rcases (show q=0\/q=1\/q=2 by omega) with rfl | rfl | rfl<;>exact h ‹_›
theorem ON{s:Str}{i:Nat}:∀q,q<=3->(∀p,p<q->R7 s i p)->lR s i q<=8 ^ q-1
 | 0,_,_=>by simp[lR]
 | q+1,hq,h=>by
  have c:=ON q (by omega) (fun p b=>h p (by omega));have a:=(h q (by omega)).2;unfold HF at a;simp only[lR];rcases (show q=0\/q=1\/q=2 by omega) with rfl | rfl | rfl<;>omega
theorem US{s:Str}{i:Nat}(h:∀p,p<3->R7 s i p):zF s i=if lR s i 3<256 then some (UInt8.ofNat (lR s i 3)) else none:=by
 unfold zF;by_cases a:lR s i 3<256
 ·rw[A4 ⟨⟨h 0 (by omega),h 1 (by omega),h 2 (by omega)⟩,a⟩,A4 a]
 ·rw[A5 (fun b=>a b.2),A5 a]
theorem HG{b:Nat}{x:Ob}{ob:Obs}(h:D4 ob b=some x):∀k o,D4 ((b,x)::ob) k=some o->D4 ob k=some o:=by
 intro k o a;by_cases c:b=k
 ·subst c;rw[E6]at a;cases a;exact h
 ·rw[C8 c]at a;exact a
theorem rE{b:Nat}{x y:Ob}{ob:Obs}:∀k o,D4 ((b,x)::ob) k=some o->D4 ((b,x)::(b,y)::ob) k=some o:=by
 intro k o a;by_cases c:b=k
 ·subst c;rw[E6]at a ⊢;exact a
 ·rw[C8 c]at a ⊢;rw[C8 c];exact a
theorem QF{gf:Fr}{ob:Obs}(s:Str)(i:Nat)(T:i<=s.length)(hs:s.length<=1073741824)(E:D4 ob 705=some (W9 s i)) :
  AL.Met Tryz.prog 344 [.one (.ref 705 0)] gf ob []
   (fun Q ob'=>∃(x:Int) (b:Bool) (j:Nat),Q=[t8 x,LN b]/\ob'=(705,W9 s j)::ob/\j<=s.length/\match zF s i with
    | some c=>b=true/\x=c.toNat/\j=i+3
    | none=>b=false):=by
 refine AL.Met.introH Tryz.func344 (by decide) rfl rfl rfl (fun K=>?_);refine k2 ?_;refine A7 (A6 (A9 Z Z) Z (A6 (A9 Z Z) Z (B0 ?_)));refine k1 (k2 ?_);refine A7 (A6 (A9 Z Z) Z (B0 ?_));refine k1 (k2 (k2 ?_));refine A7 (A6 (A8 Z Z) Z (B0 ?_));refine k1 (k3 ?_);refine E3 (X:=Nat) (fun q=>([(0,.s (.one (.ref 705 0))),(4,C7 (lR s i q:Int)),(5,C7 q)]++gf,(705,W9 s (i+q))::ob)) (fun q=>q<=3/\∀p,p<q->R7 s i p) (fun q=>3-q) 0 ⟨by omega,by omega⟩ ?_ ?_
 ·exact A00 ⟨B5 rfl,B5 rfl,B5 rfl,trivial⟩ K (by repeat (first | exact C5 | refine C3 rfl ?_)) (HG E)
 rintro q ⟨y,m⟩;dsimp only at y m ⊢;have P:=ON q y m;have B:q=0\/i+q<=s.length:=by
  rcases Nat.eq_zero_or_pos q with h | h
  ·exact .inl h
  ·have:=(m (q-1) (by omega)).1;exact .inr (by omega)
 have A:i+q<=s.length:=by rcases B with rfl | h<;>omega
 have S:lR s i q<=512:=by rcases (show q=0\/q=1\/q=2\/q=3 by omega) with rfl | rfl | rfl | rfl<;>omega
 refine k2 ?_;refine A7 (A6 (F2 Z Z) Z (B0 ?_));refine k1 (k2 ?_);refine B8 rfl (fun w=>?_) (fun w=>?_)
 ·have F:q<3:=by have:=A0 w;omega
  refine k5 (k1 (k2 (k3 (k2 (k2 ?_)))));refine D8 (by kernel_rfl) (by kernel_rfl) (B3 (A8 Z Z) Z Z (B3 (B7 Z) Z Z (B3 (B1 Z) Z Z (B3 (B2 Z Z Z) Z Z (B3 (A8 Z Z) Z Z (B3 (B7 Z) Z Z (B3 (B1 Z) Z Z (B3 (B2 Z Z Z) Z Z (B3 (G4 Z) Z Z (B3 (x9 Z Z) Z Z (B3 (A8 Z Z) Z Z (C6 Z Z (fun d=>by rw[d];exact A8 Z Z) Z Z ?_))))))))))));refine C6 Z Z (fun d=>by rw[d];exact B7 Z) Z Z ?_;refine C6 Z Z (fun d=>by rw[d];exact B1 Z) Z Z ?_;refine C6 Z Z (fun d=>by rw[d];exact B2 Z Z Z) Z Z ?_;refine C6 Z Z (fun d=>by rw[d];exact A8 Z Z) Z Z ?_;refine C6 Z Z (fun d=>by rw[d];exact B7 Z) Z Z ?_;refine C6 Z Z (fun d=>by rw[d];exact B1 Z) Z Z ?_;refine C6 Z Z (fun d=>by rw[d];exact B2 Z Z Z) Z Z ?_;refine C6 Z Z (fun d=>by have y:=d;(try simp at y);rw[d];exact K0 Z Z (by omega) (gD (by omega))) Z Z ?_;refine C6 Z Z (fun d=>by rw[d];exact F2 Z Z) Z Z ?_;refine B3 (B9 Z (fun h=>by first | rfl | (rw[h];rfl)) (fun h=>by first | rfl | (rw[h];rfl))) Z Z ?_;refine B3 (A8 Z Z) Z Z (C6 Z Z (fun d=>by rw[d];exact A8 Z Z) Z Z ?_);refine C6 Z Z (fun d=>by rw[d];exact B7 Z) Z Z ?_;refine C6 Z Z (fun d=>by rw[d];exact B1 Z) Z Z ?_;refine C6 Z Z (fun d=>by rw[d];exact B2 Z Z Z) Z Z ?_;refine C6 Z Z (fun d=>by rw[d];exact A8 Z Z) Z Z ?_;refine C6 Z Z (fun d=>by rw[d];exact B7 Z) Z Z ?_;refine C6 Z Z (fun d=>by rw[d];exact B1 Z) Z Z ?_;refine C6 Z Z (fun d=>by rw[d];exact B2 Z Z Z) Z Z ?_;refine C6 Z Z (fun d=>by have y:=d;(try simp at y);rw[d];exact K0 Z Z (by omega) (gD (by omega))) Z Z ?_;refine C6 Z Z (fun d=>by rw[d];exact P8 Z Z) Z Z ?_;refine B3 (B9 Z (fun h=>by first | rfl | (rw[h];rfl)) (fun h=>by first | rfl | (rw[h];rfl))) Z Z ?_;refine J8 ?_;refine k1 ?_;simp only[or_pick,A36];have C:decide ((((s.length:Int)<=((i+q:Nat):Int))\/((s.getD (i+q) 0).toNat:Int)<48)\/(55:Int)<((s.getD (i+q) 0).toNat:Int))=decide (¬R7 s i q):=by
   congr 1
   unfold R7 HF;apply propext;constructor
   ·intro J R;omega
   ·intro J;by_cases M:i+q<s.length
    ·by_cases O:48<=(s.getD (i+q) 0).toNat
     ·by_cases E:(s.getD (i+q) 0).toNat<=55
      ·exact absurd ⟨M,O,E⟩ J
      ·exact .inr (by omega)
     ·exact .inl (.inr (by omega))
    ·exact .inl (.inl (by omega))
  rw[C];refine B8 rfl (fun w=>?_) (fun w=>?_)
  ·have z:¬R7 s i q:=A0 w;refine k2 ?_;refine A7 (A6 (A9 Z Z) Z (A6 (A9 Z Z) Z (B0 ?_)));refine k1 (G5 (I2 (R5 (I2 (I2 (R5 (I2 ?_)))))));refine G1 (bO rfl rfl rfl) (by repeat (first | exact C5 | refine C3 rfl ?_ | refine D3 _ ?_)) (fun _ _ h=>h) ⟨0,false,i+q,rfl,rfl,A,?_⟩;rw[rD F z]
  ·have k:R7 s i q:=Decidable.not_not.1 (A1 w);obtain⟨g1,I,L⟩:=k;have k:R7 s i q:=⟨g1,I,L⟩
   have u:=HC (s.getD (i+q) 0).toNat I (by omega);refine k5 (k1 (k2 ?_));have D:s[i+q]?=some (s.getD (i+q) 0):=gD g1;refine D8 (by kernel_rfl) (by kernel_rfl) (B3 (A8 Z Z) Z Z (B3 (dV Z Z (by omega)) Z Z (B3 (A8 Z Z) Z Z (B3 (B7 Z) Z Z (B3 (B1 Z) Z Z (B3 (B2 Z Z Z) Z Z (B3 (A8 Z Z) Z Z (B3 (B7 Z) Z Z (B3 (B1 Z) Z Z (B3 (B2 Z Z Z) Z Z (B3 (K0 Z Z (by omega) D) Z Z (B3 (CN Z Z) Z Z (B3 (U3 Z) Z Z (B3 (C9 Z Z (by (rw[u];omega))) Z Z ?_))))))))))))));refine B3 (A9 Z Z) Z Z (J8 ?_);rw[u];refine k1 ?_;refine A7 (A6 (A8 Z Z) Z (A6 (B7 Z) Z (A6 (B1 Z) Z (A6 (B2 Z Z Z) Z (A6 (C9 Z Z (by omega)) Z (A6 (B7 Z) Z (A6 (B1 Z) Z (F4 (C2 TySz.out Z Z Z Z Z Z) (B0 ?_)))))))));refine k4 (k1 ?_);refine A7 (A6 (C9 Z Z (by omega)) Z (A6 (A8 Z Z) Z (B0 ?_)));refine k1 ?_;refine⟨q+1,⟨by omega,fun p U=>?_⟩,by omega,?_⟩
   ·by_cases G:p=q
    ·rw[G];exact k
    ·exact m p (by omega)
   rw[show ((lR s i (q+1):Nat):Int)=8*((lR s i q:Nat):Int)+(((s.getD (i+q) 0).toNat-48:Nat):Int) by simp only[lR];omega,show W9 s (i+(q+1))=.box [.p (.v (.string ⟨s.toArray⟩)),.p (.v (.int .i64 (((i+q:Nat):Int)+1)))] by unfold W9;congr 6];exact A00 ⟨B5 rfl,B5 rfl,B5 rfl,trivial⟩ K (by repeat (first | exact C5 | refine C3 rfl ?_)) rE
 ·have H:q=3:=by have:=A1 w;omega
  subst H;refine k6 (k2 ?_);refine A7 (A6 (A8 Z Z) Z (A6 (U3 Z) Z (A6 (A8 Z Z) Z (A6 (F2 Z Z) Z (A6 (A9 Z Z) Z (A6 (A9 Z Z) Z (B0 ?_)))))));refine k1 (G5 ?_);refine G1 (bO rfl rfl rfl) (by repeat (first | exact C5 | refine C3 rfl ?_ | refine D3 _ ?_)) (fun _ _ h=>h) ⟨_,_,i+3,rfl,rfl,A,?_⟩;rw[US m];by_cases D:lR s i 3<256
  ·rw[A4 D];refine⟨A2 (by omega),?_,rfl⟩;rw[UInt8.toNat_ofNat'];have:∀n:Fin 256,IntKind.u8.wrap ((n.1:Nat):Int)=((n.1 % 2 ^ 8:Nat):Int):=by decide
   exact this ⟨_,D⟩
  ·rw[A5 D];exact A3 (by omega)
def DN(s:Str)(i:Nat):Option (UInt8×Nat):=if i<s.length then
  (if (s.getD i 0).toNat=34\/(s.getD i 0).toNat=92 then some (s.getD i 0,i+1) else if (s.getD i 0).toNat=110 then some (10,i+1) else if (s.getD i 0).toNat=116 then some (9,i+1) else (zF s i).map fun x=>(x,i+3))
 else none
theorem tY(s:Str)(i:Nat):DN s i=(jE (s.drop i)).map fun p=>(p.1,i+p.2):=by
 unfold DN;by_cases t:i<s.length
 ·rw[A4 t];have l:(s.drop i)[0]?=some (s.getD i 0):=by rw[A60];exact gD t
  have c:∀q,(s.drop i)[q]?=s[i+q]?:=fun q=>A60;obtain⟨d,r,o⟩:∃d r,s.drop i=d::r:=by
   cases h:s.drop i with
   | nil=>rw[h]at l;cases l
   | cons d r=>exact⟨d,r,rfl⟩
  rw[o]at l c ⊢;have v:s.getD i 0=d:=by simpa using l.symm
  rw[v];simp only[jE];by_cases g:d.toNat=34\/d.toNat=92
  ·rw[A4 g,A4 g];rfl
  ·rw[A5 g,A5 g];by_cases j:d.toNat=110
   ·rw[A4 j,A4 j];rfl
   ·rw[A5 j,A5 j];by_cases k:d.toNat=116
    ·rw[A4 k,A4 k];rfl
    ·rw[A5 k,A5 k];cases r with
     | nil =>
      have:¬R7 s i 1:=fun h=>by have:=h.1;have b:=c 1;rw[A32 this]at b;simp at b
      rw[rD (q:=1) (by omega) this];rfl
     | cons e C =>
      cases C with
      | nil =>
       have:¬R7 s i 2:=fun h=>by have:=h.1;have b:=c 2;rw[A32 this]at b;simp at b
       rw[rD (q:=2) (by omega) this];rfl
      | cons f D =>
       have n:=c 1;have b:=c 2;simp only[List.getElem?_cons_succ,List.getElem?_cons_zero]at n b;have A:=(List.getElem?_eq_some_iff.1 n.symm).1;have B:=(List.getElem?_eq_some_iff.1 b.symm).1;have w:s.getD (i+1) 0=e:=by have:=gD A;rw[<-n]at this;exact (Option.some.inj this).symm
       have x:s.getD (i+2) 0=f:=by have:=gD B;rw[<-b]at this;exact (Option.some.inj this).symm
       have z:zF s i=SG d e f:=by
        unfold zF SG R7 HF;simp only[lR,Nat.add_zero,v,w,x];by_cases u:(((((d.toNat<48\/55<d.toNat)\/e.toNat<48)\/55<e.toNat)\/f.toNat<48)\/55<f.toNat)\/256<=64*(d.toNat-48)+8*(e.toNat-48)+(f.toNat-48)
        ·rw[A4 u,A5 (by omega)]
        ·rw[A5 u,A4 (by omega)]
         congr 2;omega
       rw[z];show (SG d e f).map _=((SG d e f).map _).map _;rw[Option.map_map];rfl
 ·rw[A5 t,A48 (by omega)];rfl
theorem XO{s:Str}{i j:Nat}{x:UInt8}(h:DN s i=some (x,j)):i<j/\j<=s.length:=by
 rw[tY]at h;cases a:jE (s.drop i) with
 | none=>rw[a]at h;cases h
 | some p =>
  obtain⟨y,k⟩:=p;rw[a]at h;simp at h;have:=BY a;rw[A47]at this;omega
theorem vZ{gf:Fr}{ob:Obs}(s:Str)(i:Nat)(A:i<=s.length)(hs:s.length<=1073741824)(D:D4 ob 705=some (W9 s i)) :
  AL.Met Tryz.prog 319 [.one (.ref 705 0)] gf ob []
   (fun G ob'=>∃(x:Int) (b:Bool) (j:Nat),G=[t8 x,LN b]/\ob'=(705,W9 s j)::ob/\j<=s.length/\match DN s i with
    | some (c,j')=>b=true/\x=c.toNat/\j=j'
    | none=>b=false):=by
 refine AL.Met.introH Tryz.func319 (by decide) rfl rfl rfl (fun w=>?_);refine G8 (fr':=[(0,.s (.one (.ref 705 0)))]++gf) (ob':=(705,W9 s i)::ob) (A00 ⟨B5 rfl,trivial⟩ w (by repeat (first | exact C5 | refine C3 rfl ?_)) (HG D)) ?_;refine k2 ?_;refine A7 (A6 (A9 Z Z) Z (A6 (A9 Z Z) Z (B0 ?_)));refine k1 (k2 (k2 ?_));refine D8 (by kernel_rfl) (by kernel_rfl) (B3 (A8 Z Z) Z Z (B3 (B7 Z) Z Z (B3 (B1 Z) Z Z (B3 (B2 Z Z Z) Z Z (B3 (A8 Z Z) Z Z (B3 (B7 Z) Z Z (B3 (B1 Z) Z Z (B3 (B2 Z Z Z) Z Z (B3 (G4 Z) Z Z (B3 (x9 Z Z) Z Z (J8 ?_)))))))))));refine k1 ?_;refine B8 rfl (fun d=>?_) (fun d=>?_)
 ·have t:¬i<s.length:=by have:=A0 d;omega
  refine k2 ?_;refine A7 (A6 (A9 Z Z) Z (A6 (A9 Z Z) Z (B0 ?_)));refine k1 (G5 (I2 ?_));refine G1 (bO rfl rfl rfl) (by repeat (first | exact C5 | refine C3 rfl ?_ | refine D3 _ ?_)) (fun _ _ h=>h) ⟨0,false,i,rfl,rfl,A,?_⟩;unfold DN;rw[A5 t]
 have g:i<s.length:=by have:=A1 d;omega
 obtain⟨c,z⟩:∃c,c=s.getD i 0:=⟨_,rfl⟩
 have F:s[i]?=some c:=by rw[z];exact gD g
 have k:DN s i=(if c.toNat=34\/c.toNat=92 then some (c,i+1) else if c.toNat=110 then some (10,i+1) else if c.toNat=116 then some (9,i+1) else (zF s i).map fun x=>(x,i+3)):=by unfold DN;rw[A4 g,<-z]
 refine k5 (k1 (k2 (k2 ?_)));refine D8 (by kernel_rfl) (by kernel_rfl) (B3 (A8 Z Z) Z Z (B3 (B7 Z) Z Z (B3 (B1 Z) Z Z (B3 (B2 Z Z Z) Z Z (B3 (A8 Z Z) Z Z (B3 (B7 Z) Z Z (B3 (B1 Z) Z Z (B3 (B2 Z Z Z) Z Z (B3 (K0 Z Z (by omega) F) Z Z (B3 (A9 Z Z) Z Z (J8 ?_)))))))))));refine k1 (k2 ?_);refine A7 (A6 (A8 Z Z) Z (B0 ?_));refine K6 ?_;refine NY ?_;refine y4 ([(0,.s (.one (.ref 705 0))),(4,.s (t8 c.toNat)),(24,.s (t8 c.toNat)),(25,K2 (.bool (decide (c.toNat=34\/c.toNat=92))))]++gf) ((705,W9 s i)::ob) ?_ ?_
 ·refine k2 ?_;refine A7 (A6 (I3 Z Z) Z (A6 (A9 Z Z) Z (B0 ?_)));refine k1 ?_;refine B8 rfl (fun d=>?_) (fun d=>?_)
  ·have t:(c.toNat:Int)=34:=A0 d;refine k5 (k1 ?_);exact A00 ⟨B5 rfl,B5 rfl,B5 rfl,⟨_,rfl,.eq (by congr 4;apply propext;constructor<;>intro _<;>omega)⟩,trivial⟩ w (by repeat (first | exact C5 | refine C3 rfl ?_)) (fun _ _ h=>h)
  ·have t:¬(c.toNat:Int)=34:=A1 d;skip;refine A7 (A6 (I3 Z Z) Z (A6 (A9 Z Z) Z (B0 ?_)));refine k1 ?_;exact A00 ⟨B5 rfl,B5 rfl,B5 rfl,⟨_,rfl,.eq (by congr 4;apply propext;constructor<;>intro _<;>omega)⟩,trivial⟩ w (by repeat (first | exact C5 | refine C3 rfl ?_)) (fun _ _ h=>h)
 skip;refine B8 rfl (fun d=>?_) (fun d=>?_)
 ·have t:=A0 d;rw[A4 t]at k;refine k2 ?_;refine A7 (A6 (A8 Z Z) Z (A6 (B7 Z) Z (A6 (B1 Z) Z (A6 (B2 Z Z Z) Z (A6 (C9 Z Z (by omega)) Z (A6 (B7 Z) Z (A6 (B1 Z) Z (F4 (C2 TySz.out Z Z Z Z Z Z) (B0 ?_)))))))));refine k1 (k2 ?_);refine A7 (A6 (A8 Z Z) Z (A6 (A9 Z Z) Z (A6 (A9 Z Z) Z (B0 ?_))));refine k1 (G5 (R5 (I2 ?_)));refine G1 (bO rfl rfl rfl) (by repeat (first | exact C5 | refine C3 rfl ?_ | refine D3 _ ?_)) rE ⟨c.toNat,true,i+1,rfl,rfl,g,?_⟩;rw[k];exact⟨rfl,rfl,rfl⟩
 have t:=A1 d;rw[A5 t]at k;refine k2 ?_;refine A7 (A6 (I3 Z Z) Z (A6 (A9 Z Z) Z (B0 ?_)));refine k1 ?_;refine B8 rfl (fun d=>?_) (fun d=>?_)
 ·have B:(c.toNat:Int)=110:=A0 d;rw[A4 (by omega)]at k;refine k2 ?_;refine A7 (A6 (A8 Z Z) Z (A6 (B7 Z) Z (A6 (B1 Z) Z (A6 (B2 Z Z Z) Z (A6 (C9 Z Z (by omega)) Z (A6 (B7 Z) Z (A6 (B1 Z) Z (F4 (C2 TySz.out Z Z Z Z Z Z) (B0 ?_)))))))));refine k1 (k2 ?_);refine A7 (A6 (A9 Z Z) Z (A6 (A9 Z Z) Z (B0 ?_)));refine k1 (G5 (R5 (I2 ?_)));refine G1 (bO rfl rfl rfl) (by repeat (first | exact C5 | refine C3 rfl ?_ | refine D3 _ ?_)) rE ⟨10,true,i+1,rfl,rfl,g,?_⟩;rw[k];exact⟨rfl,rfl,rfl⟩
 have B:¬(c.toNat:Int)=110:=A1 d;rw[A5 (by omega)]at k;refine k2 ?_;refine A7 (A6 (I3 Z Z) Z (A6 (A9 Z Z) Z (B0 ?_)));refine k1 ?_;refine B8 rfl (fun d=>?_) (fun d=>?_)
 ·have C:(c.toNat:Int)=116:=A0 d;rw[A4 (by omega)]at k;refine k2 ?_;refine A7 (A6 (A8 Z Z) Z (A6 (B7 Z) Z (A6 (B1 Z) Z (A6 (B2 Z Z Z) Z (A6 (C9 Z Z (by omega)) Z (A6 (B7 Z) Z (A6 (B1 Z) Z (F4 (C2 TySz.out Z Z Z Z Z Z) (B0 ?_)))))))));refine k1 (k2 ?_);refine A7 (A6 (A9 Z Z) Z (A6 (A9 Z Z) Z (B0 ?_)));refine k1 (G5 (R5 (I2 ?_)));refine G1 (bO rfl rfl rfl) (by repeat (first | exact C5 | refine C3 rfl ?_ | refine D3 _ ?_)) rE ⟨9,true,i+1,rfl,rfl,g,?_⟩;rw[k];exact⟨rfl,rfl,rfl⟩
 have C:¬(c.toNat:Int)=116:=A1 d;rw[A5 (by omega)]at k;refine k5 (k2 ?_);refine A7 (A6 (A8 Z Z) Z (R4 (QF s i A hs Z) Z Z Z ?_));rintro _ _ ⟨x,b,j,rfl,rfl,E,v⟩;refine A6 (B6 Z Z) Z (A6 (B6 Z Z) Z (A6 (A9 Z Z) Z (A6 (A9 Z Z) Z (B0 ?_))));refine k1 (G5 ?_);refine G1 (bO rfl rfl rfl) (by repeat (first | exact C5 | refine C3 rfl ?_ | refine D3 _ ?_)) rE ⟨x,b,j,rfl,rfl,E,?_⟩;rw[k];cases u:zF s i with
 | none=>rw[u]at v;exact v
 | some y=>rw[u]at v;exact v
def goOn(s a:Str):Option (UInt8×Nat)->Option (Str×Nat)
 | none=>none
 | some (x,j)=>N7 s j (a++[x])
theorem jY{s:Str}{i:Nat}{b:Str}(h:i<s.length):N7 s i b=if (s.getD i 0).toNat=34 then some (b,i+1) else if (s.getD i 0).toNat=92 then goOn s b (DN s (i+1)) else N7 s (i+1) (b++[s.getD i 0]):=by
 have f:s[i]=s.getD i 0:=by have:=gD h;rw[A32 h]at this;exact Option.some.inj this
 rw[N7,dif_pos h,f,tY];by_cases c:(s.getD i 0).toNat=34
 ·rw[A4 c,A4 c]
 ·rw[A5 c,A5 c];by_cases d:(s.getD i 0).toNat=92
  ·rw[A4 d,A4 d];split
   ·rename_i e;rw[e];rfl
   ·rename_i x k e;rw[e];rfl
  ·rw[A5 d,A5 d]
theorem dF{s:Str}{i:Nat}{a:Str}(h:s.length<=i):N7 s i a=none:=by rw[N7,dif_neg (by omega)]
theorem wA{gf:Fr}(s:Str)(i:Nat)(P:i<=s.length)(hs:s.length<=1073741824) :
  AL.Met Tryz.prog 288 [.one (.ref 705 0)] gf [(705,W9 s i)] [706]
   (fun S ob'=>∃(w:Str) (b:Bool) (j:Nat),S=[.one (.p (.v (.string ⟨w.toArray⟩))),LN b]/\ob'=[(705,W9 s j)]/\j<=s.length/\match N7 s i [] with
    | some (w',N)=>b=true/\w=w'/\j=N
    | none=>b=false):=by
 refine AL.Met.introH Tryz.func288 (by decide) rfl rfl rfl (fun H=>?_);refine k2 ?_;refine A7 (A6 (A9 Z Z) Z (A6 (A9 Z Z) Z (B0 ?_)));refine k1 (k2 ?_);refine A7 (D2 (GA 706 _ uL Z Z) Z (B0 ?_));refine k1 (k2 (k3 ?_));refine E3 (X:=Nat×Str) (fun z=>([(0,.s (.one (.ref 705 0))),(4,.s (.one (.mut 706)))]++Fr.forget 706 gf,[(706,.grow 5 UInt8 1 uL z.2),(705,W9 s z.1)])) (fun z=>z.1<=s.length/\z.2.length<=z.1/\N7 s z.1 z.2=N7 s i []) (fun z=>s.length-z.1) (i,[]) ⟨P,Nat.zero_le _,rfl⟩ ?_ ?_
 ·exact A00 ⟨B5 rfl,B5 rfl,trivial⟩ (M9 H) (by repeat (first | exact C5 | refine C3 rfl ?_ | refine J6 _ ?_ | refine D3 _ ?_)) (ObIn.spec (ob':=[(706,_),(705,_)]) ⟨rfl,rfl,trivial⟩)
 rintro⟨p,B⟩ ⟨M,I,h⟩;dsimp only at M I h ⊢;refine k2 (k2 ?_);refine D8 (by kernel_rfl) (by kernel_rfl) (B3 (A8 Z Z) Z Z (B3 (B7 Z) Z Z (B3 (B1 Z) Z Z (B3 (B2 Z Z Z) Z Z (B3 (A8 Z Z) Z Z (B3 (B7 Z) Z Z (B3 (B1 Z) Z Z (B3 (B2 Z Z Z) Z Z (B3 (G4 Z) Z Z (B3 (F2 Z Z) Z Z (J8 ?_)))))))))));refine k1 ?_;refine B8 rfl (fun d=>?_) (fun d=>?_)
 ·have A:p<s.length:=by have:=A0 d;omega
  obtain⟨c,L⟩:∃c,c=s.getD p 0:=⟨_,rfl⟩
  have R:s[p]?=some c:=by rw[L];exact gD A
  rw[jY A,<-L]at h;refine k5 (k1 (k3 (k2 ?_)));refine D8 (by kernel_rfl) (by kernel_rfl) (B3 (A8 Z Z) Z Z (B3 (B7 Z) Z Z (B3 (B1 Z) Z Z (B3 (B2 Z Z Z) Z Z (B3 (A8 Z Z) Z Z (B3 (B7 Z) Z Z (B3 (B1 Z) Z Z (B3 (B2 Z Z Z) Z Z (B3 (K0 Z Z (by omega) R) Z Z (B3 (A9 Z Z) Z Z (J8 ?_)))))))))));refine k1 (k2 ?_);refine A7 (A6 (A8 Z Z) Z (A6 (B7 Z) Z (A6 (B1 Z) Z (A6 (B2 Z Z Z) Z (A6 (C9 Z Z (by omega)) Z (A6 (B7 Z) Z (A6 (B1 Z) Z (F4 (C2 TySz.out Z Z Z Z Z Z) (B0 ?_)))))))));refine k1 (k2 (k2 ?_));refine A7 (A6 (A8 Z Z) Z (A6 (I3 Z Z) Z (B0 ?_)));refine k1 ?_;refine B8 rfl (fun d=>?_) (fun d=>?_)
  ·have O:(c.toNat:Int)=34:=A0 d;rw[A4 (by omega)]at h;refine k2 ?_;refine G8 (A14 (t:=4) Z Z Z) ?_;refine A7 (A6 (A8 Z Z) Z (A6 (jK TyStr.out Z (.buf _ _ _ _ _)) Z (A6 (A9 Z Z) Z (A6 (A9 Z Z) Z (B0 ?_)))));refine k1 (G5 (I2 (R5 (I2 (R5 (I2 ?_))))));refine G1 (bO rfl rfl rfl) (by repeat (first | exact C5 | refine C3 rfl ?_ | refine D3 _ ?_)) (ObIn.spec (ob':=[(705,W9 s (p+1))]) ⟨rfl,trivial⟩) ⟨B,true,p+1,rfl,rfl,A,?_⟩;rw[<-h];exact⟨rfl,rfl,rfl⟩
  have O:¬(c.toNat:Int)=34:=A1 d;rw[A5 (by omega)]at h;obtain⟨G,a⟩:∃G:Option (UInt8×Nat),G=if c.toNat=92 then DN s (p+1) else some (c,p+1):=⟨_,rfl⟩
  have l:goOn s B G=N7 s i []:=by
   rw[<-h,a];by_cases k:c.toNat=92
   ·rw[A4 k,A4 k]
   ·rw[A5 k,A5 k];rfl
  have K:∀x j,G=some (x,j)->p<j/\j<=s.length:=by
   intro x j C;rw[a]at C;by_cases k:c.toNat=92
   ·rw[A4 k]at C;have:=XO C;omega
   ·rw[A5 k]at C;cases C;omega
  cases E:G with
  | none =>
   refine k5 (k1 (k2 (k2 ?_)));refine A7 (A6 (A8 Z Z) Z (A6 (I3 Z Z) Z (B0 ?_)));refine k1 ?_;rw[E]at l;have k:c.toNat=92:=by
    by_cases k:c.toNat=92
    ·exact k
    ·rw[A5 k,E]at a;cases a
   rw[A4 k,E]at a;refine B8 rfl (fun d=>?_) (fun d=>?_);rotate_left
   ·exact absurd (show (c.toNat:Int)=92 by omega) (A1 d)
   refine k2 ?_;refine A7 (A6 (A9 Z Z) Z (B0 ?_));refine k1 (k2 ?_);refine A7 (A6 (A8 Z Z) Z (R4 (vZ s (p+1) A hs Z) Z Z Z ?_));rintro _ _ ⟨x,b,j,rfl,rfl,C,D⟩;refine A6 (A8 Z Z) Z (A6 (B6 Z Z) Z (A6 (B6 Z Z) Z (A6 (A9 Z Z) Z (A6 (A9 Z Z) Z (B0 ?_)))));rw[<-a]at D;have D:b=false:=D;subst D;refine k1 (k2 ?_);refine A7 (A6 (A8 Z Z) Z (A6 (G7 Z) Z (B0 ?_)));refine k1 ?_;refine B8 rfl (fun d=>?_) (fun d=>?_)
   ·refine k2 ?_;refine A7 (A6 (A9 Z Z) Z (A6 (A9 Z Z) Z (B0 ?_)));refine k1 (G5 (I2 (R5 (I2 (R5 (I2 ?_))))));refine G1 (bO rfl rfl rfl) (by repeat (first | exact C5 | refine C3 rfl ?_ | refine D3 _ ?_)) (ObIn.spec (ob':=[(705,W9 s j)]) ⟨rfl,trivial⟩) ⟨[],false,j,rfl,rfl,C,?_⟩;rw[<-l];exact (rfl:false=false)
   ·cases d
  | some q =>
   obtain⟨y,j⟩:=q;obtain⟨Q,J⟩:=K y j E;rw[E]at l;refine KA ?_;refine K6 ?_;refine y4 ([(0,.s (.one (.ref 705 0))),(4,.s (.one (.mut 706))),(5,.s (t8 y.toNat))]++Fr.forget 706 gf) [(706,.grow 5 UInt8 1 uL B),(705,W9 s j)] ?_ ?_
   ·refine k2 ?_;refine A7 (A6 (A8 Z Z) Z (A6 (I3 Z Z) Z (B0 ?_)));refine k1 ?_;refine B8 rfl (fun d=>?_) (fun d=>?_)
    ·have k:c.toNat=92:=by have:(c.toNat:Int)=92:=A0 d;omega
     rw[A4 k,E]at a;refine k2 ?_;refine A7 (A6 (A9 Z Z) Z (B0 ?_));refine k1 (k2 ?_);refine A7 (A6 (A8 Z Z) Z (R4 (vZ s (p+1) A hs Z) Z Z Z ?_));rintro _ _ ⟨x,b,N,rfl,rfl,C,D⟩;refine A6 (A8 Z Z) Z (A6 (B6 Z Z) Z (A6 (B6 Z Z) Z (A6 (A9 Z Z) Z (A6 (A9 Z Z) Z (B0 ?_)))));rw[<-a]at D;obtain⟨rfl,rfl,rfl⟩:=D;refine k1 (k2 ?_);refine A7 (A6 (A8 Z Z) Z (A6 (G7 Z) Z (B0 ?_)));refine k1 ?_;refine B8 rfl (fun d=>?_) (fun d=>?_)
     ·cases d
     refine k5 (k1 ?_);exact A00 ⟨B5 rfl,B5 rfl,B5 rfl,trivial⟩ (M9 H) (by repeat (first | exact C5 | refine C3 rfl ?_)) (ObIn.spec (ob':=[(706,_),(705,_)]) ⟨rfl,rfl,trivial⟩)
    ·have k:¬c.toNat=92:=by have:¬(c.toNat:Int)=92:=A1 d;omega
     rw[A5 k,E]at a;obtain⟨rfl,rfl⟩:y=c/\j=p+1:=by simpa using a
     refine k5 (k1 ?_);exact A00 ⟨B5 rfl,B5 rfl,B5 rfl,trivial⟩ (M9 H) (by repeat (first | exact C5 | refine C3 rfl ?_)) (ObIn.spec (ob':=[(706,_),(705,_)]) ⟨rfl,rfl,trivial⟩)
   skip;refine A7 (A6 (A8 Z Z) Z (A6 (A8 Z Z) Z (A6 (E0 (c:=uL) (ys:=[y]) (D9 Z Z Z Z H2) Z Z Z) Z (D2 (cY Z Z Z (.pure _ _ _ _) (by (simp;omega)) Z) Z (A6 (A9 Z Z) Z (B0 ?_))))));refine k4 (k1 ?_);refine⟨(j,B++[y]),⟨J,by simp;omega,l⟩,by dsimp only;omega,?_⟩;exact A00 ⟨B5 rfl,B5 rfl,trivial⟩ (M9 H) (by repeat (first | exact C5 | refine C3 rfl ?_ | refine J6 _ ?_)) (ObIn.spec (ob':=[(706,_),(705,_)]) ⟨rfl,rfl,trivial⟩)
 ·have F:s.length<=p:=by have:=A1 d;omega
  rw[dF F]at h;refine k6 (k2 ?_);refine A7 (A6 (A9 Z Z) Z (A6 (A9 Z Z) Z (B0 ?_)));refine k1 (G5 ?_);refine G1 (bO rfl rfl rfl) (by repeat (first | exact C5 | refine C3 rfl ?_ | refine D3 _ ?_)) (ObIn.spec (ob':=[(705,W9 s p)]) ⟨rfl,trivial⟩) ⟨[],false,p,rfl,rfl,M,?_⟩;rw[<-h]
theorem QG{s:Str}{i k:Nat}(h:i+k<s.length):(s.drop i).getD k 0=s.getD (i+k) 0:=by
 have a:=gD (s:=s.drop i) (i:=k) (by rw[A47];omega);rw[A60,gD h]at a;exact (Option.some.inj a).symm
theorem sI(s:Str)(i:Nat)(n:Nat):∀(k:Nat) (b:Str),s.length-(i+k)<=n->N7 (s.drop i) k b=(N7 s (i+k) b).map fun p=>(p.1,p.2-i):=by
 induction n with
 | zero =>
  intro k b h;rw[dF (by rw[A47];omega),dF (by omega)];rfl
 | succ n g =>
  intro k b h;by_cases c:i+k<s.length
  ·rw[jY (by rw[A47];omega),jY c,QG c];by_cases d:(s.getD (i+k) 0).toNat=34
   ·rw[A4 d,A4 d];simp;omega
   ·rw[A5 d,A5 d];by_cases f:(s.getD (i+k) 0).toNat=92
    ·rw[A4 f,A4 f,tY,tY,List.drop_drop,show i+(k+1)=i+k+1 by omega];cases j:jE (s.drop (i+k+1)) with
     | none=>rfl
     | some q =>
      obtain⟨x,e⟩:=q;simp only[Option.map_some];show N7 (s.drop i) (k+1+e) (b++[x])=Option.map _ (N7 s (i+k+1+e) (b++[x]));rw[g (k+1+e) _ (by omega),show i+(k+1+e)=i+k+1+e by omega]
    ·rw[A5 f,A5 f,g (k+1) _ (by omega),show i+(k+1)=i+k+1 by omega]
  ·rw[dF (by rw[A47];omega),dF (by omega)];rfl
theorem head_drop{s:Str}{i:Nat}:(s.drop i).head?=some 34↔(i<s.length/\(s.getD i 0).toNat=34):=by
 rw[List.head?_drop];by_cases h:i<s.length
 ·rw[gD h,Option.some.injEq,<-UInt8.toNat_inj];have:(34:UInt8).toNat=34:=rfl;constructor
  ·intro b;exact⟨h,by omega⟩
  ·intro b;omega
 ·rw[A52 (by omega)];constructor
  ·intro b;cases b
  ·intro b;exact absurd b.1 h
theorem gZ{p:UInt8->Bool}(s:Str)(i:Nat):((s.drop i).takeWhile p).length<=s.length-i:=by
 have:=(List.takeWhile_sublist p (l:=s.drop i)).length_le;rw[A47]at this;exact this
theorem aC{p:UInt8->Bool}:∀(s:Str),s.take (s.takeWhile p).length=s.takeWhile p
 | []=>rfl
 | c::r=>by
  by_cases a:p c=true
  ·rw[List.takeWhile_cons,A4 a,A34,List.take_succ_cons,aC r]
  ·rw[List.takeWhile_cons,A5 a];rfl
theorem LO{s:Str}{i j:Nat}{w:Str}(h:N7 s i []=some (w,j)):i<j/\j<=s.length/\w.length+i<=j:=by
 have:=NJ (s:=s) (s.length-i) (Nat.le_refl _) h;simpa using this
theorem UT{gf:Fr}(s:Str)(i:Nat)(Q:i<=s.length)(hs:s.length<=16777216) :
  AL.Met Tryz.prog 235 [.one (.ref 705 0)] gf [(705,W9 s i)] [706]
   (fun rs ob'=>∃(w:Str) (b:Bool) (j:Nat),rs=[.one (.p (.v (.string ⟨w.toArray⟩))),LN b]/\ob'=[(705,W9 s j)]/\j<=s.length/\match aL (s.drop i) with
    | some (w',k)=>b=true/\w=w'/\j=i+k
    | none=>b=false):=by
 have A:(i<s.length/\(s.getD i 0).toNat=34/\N7 s (i+1) []=none) \/
   ∃w j,((i<s.length/\(s.getD i 0).toNat=34/\N7 s (i+1) []=some (w,j))\/(¬(i<s.length/\(s.getD i 0).toNat=34)/\w=(s.drop i).takeWhile L8/\j=i+w.length)) /\
    i<=j/\j<=s.length/\w.length<=s.length/\aL (s.drop i)=if L9 w=(s.drop i).take (j-i) then some (w,j-i) else none:=by
  by_cases m:i<s.length/\(s.getD i 0).toNat=34
  ·cases d:N7 s (i+1) [] with
   | none=>exact .inl ⟨m.1,m.2,rfl⟩
   | some p =>
    obtain⟨w,j⟩:=p;have J:=LO d;refine .inr ⟨w,j,.inl ⟨m.1,m.2,rfl⟩,by omega,by omega,by omega,?_⟩;unfold aL;rw[A4 (head_drop.2 m),sI s i s.length 1 [] (by omega),d];rfl
  ·have L:=gZ (p:=L8) s i;refine .inr ⟨(s.drop i).takeWhile L8,_,.inr ⟨m,rfl,rfl⟩,by omega,by omega,by omega,?_⟩;unfold aL;rw[A5 (fun h=>m (head_drop.1 h)),show i+((s.drop i).takeWhile L8).length-i=((s.drop i).takeWhile L8).length by omega,aC];by_cases E:(s.drop i).takeWhile L8=[]
   ·rw[A4 E,E];rfl
   ·rw[A5 E];have:L9 ((s.drop i).takeWhile L8)=(s.drop i).takeWhile L8:=by unfold L9;rw[A4 ⟨E,List.all_takeWhile⟩]
    rw[this,A4 rfl]
 have x:decide ((i:Int)<(s.length:Int)/\((s.getD i 0).toNat:Int)=34)=decide (i<s.length/\(s.getD i 0).toNat=34):=by congr 1;apply propext;constructor<;>intro h<;>omega
 refine AL.Met.introH Tryz.func235 (by decide) rfl rfl rfl (fun D=>?_);refine k2 ?_;refine A7 (A6 (A9 Z Z) Z (A6 (A9 Z Z) Z (B0 ?_)));refine k1 (k2 ?_);refine A7 (A6 (A8 Z Z) Z (A6 (B7 Z) Z (A6 (B1 Z) Z (A6 (B2 Z Z Z) Z (A6 (A9 Z Z) Z (B0 ?_))))));refine k1 (k2 ?_);refine A7 (A6 (A9 Z Z) Z (B0 ?_));rcases A with ⟨u,F,d⟩ | ⟨w,j,hwj,hij,hjl,hwl,hW⟩
 ·refine k1 (k2 (k2 ?_));refine A7 (A6 (A8 Z Z) Z (A6 (A8 Z Z) Z (A6 (B7 Z) Z (A6 (B1 Z) Z (A6 (B2 Z Z Z) Z (A6 (G4 Z) Z (A6 (F2 Z Z) Z (A6 (A8 Z Z) Z (B4 Z Z Z Z (fun d=>by rw[d];exact A8 Z Z) ?_)))))))));refine B4 Z Z Z Z (fun d=>by rw[d];exact B7 Z) ?_;refine B4 Z Z Z Z (fun d=>by rw[d];exact B1 Z) ?_;refine B4 Z Z Z Z (fun d=>by rw[d];exact B2 Z Z Z) ?_;refine B4 Z Z Z Z (fun d=>by rw[d];exact A8 Z Z) ?_;refine B4 Z Z Z Z (fun d=>by have m:=d;(try simp at m);rw[d];exact K0 Z Z (by omega) (gD (by omega))) ?_;refine B4 Z Z Z Z (fun d=>by rw[d];exact I3 Z Z) ?_;refine A6 (B9 Z (fun h=>by first | rfl | (rw[h];rfl)) (fun h=>by first | rfl | (rw[h];rfl))) Z ?_;refine B0 ?_;simp only[and_pick,A36];rw[x];refine k1 ?_;refine B8 rfl (fun q=>?_) (fun q=>?_);rotate_left
  ·exact absurd ⟨u,F⟩ (A1 q)
  refine k2 ?_;refine A7 (A6 (A8 Z Z) Z (A6 (B7 Z) Z (A6 (B1 Z) Z (A6 (B2 Z Z Z) Z (A6 (C9 Z Z (by omega)) Z (A6 (B7 Z) Z (A6 (B1 Z) Z (F4 (C2 TySz.out Z Z Z Z Z Z) (B0 ?_)))))))));refine k1 (k2 ?_);refine G8 (fr':=[(0,.s (.one (.ref 705 0))),(4,C7 i)]++gf) (ob':=[(705,W9 s (i+1))]) (A00 ⟨B5 rfl,B5 rfl,trivial⟩ D (by repeat (first | exact C5 | refine C3 rfl ?_)) (ObIn.spec (ob':=[(705,_)]) ⟨rfl,trivial⟩)) ?_;refine A7 (A6 (A9 Z Z) Z (B0 ?_));refine k1 (k2 ?_);refine A7 (A6 (A8 Z Z) Z (R4 (wA s (i+1) u (by omega)) Z Z Z ?_));rintro _ _ ⟨w,b,j,rfl,rfl,G,B⟩;refine A6 (A8 Z Z) Z (A6 (B6 Z Z) Z (A6 (B6 Z Z) Z (A6 (A9 Z Z) Z (A6 (A9 Z Z) Z (B0 ?_)))));rw[d]at B;have B:b=false:=B;subst B;refine k1 (k2 ?_);refine A7 (A6 (A8 Z Z) Z (A6 (G7 Z) Z (B0 ?_)));refine k1 ?_;refine B8 rfl (fun q=>?_) (fun q=>?_)
  ·refine k2 ?_;refine A7 (A6 (A9 Z Z) Z (A6 (A9 Z Z) Z (B0 ?_)));refine k1 (G5 (I2 ?_));refine G1 (bO rfl rfl rfl) (by repeat (first | exact C5 | refine C3 rfl ?_ | refine D3 _ ?_)) (fun _ _ h=>h) ⟨[],false,j,rfl,rfl,G,?_⟩;have:aL (s.drop i)=none:=by
    unfold aL;rw[A4 (head_drop.2 ⟨u,F⟩),sI s i s.length 1 [] (by omega),d];rfl
   rw[this]
  ·cases q
 ·refine K6 ?_;refine y4 ([(0,.s (.one (.ref 705 0))),(4,C7 i),(5,P3 w)]++Fr.forget 706 gf) [(705,W9 s j)] ?_ ?_
  ·refine k2 ?_;refine A7 (A6 (A8 Z Z) Z (A6 (A8 Z Z) Z (A6 (B7 Z) Z (A6 (B1 Z) Z (A6 (B2 Z Z Z) Z (A6 (G4 Z) Z (A6 (F2 Z Z) Z (A6 (A8 Z Z) Z (B4 Z Z Z Z (fun d=>by rw[d];exact A8 Z Z) ?_)))))))));refine B4 Z Z Z Z (fun d=>by rw[d];exact B7 Z) ?_;refine B4 Z Z Z Z (fun d=>by rw[d];exact B1 Z) ?_;refine B4 Z Z Z Z (fun d=>by rw[d];exact B2 Z Z Z) ?_;refine B4 Z Z Z Z (fun d=>by rw[d];exact A8 Z Z) ?_;refine B4 Z Z Z Z (fun d=>by have m:=d;(try simp at m);rw[d];exact K0 Z Z (by omega) (gD (by omega))) ?_;refine B4 Z Z Z Z (fun d=>by rw[d];exact I3 Z Z) ?_;refine A6 (B9 Z (fun h=>by first | rfl | (rw[h];rfl)) (fun h=>by first | rfl | (rw[h];rfl))) Z ?_;refine B0 ?_;simp only[and_pick,A36];rw[x];refine k1 ?_;refine B8 rfl (fun q=>?_) (fun q=>?_)
   ·have m:=A0 q;rcases hwj with ⟨_,_,d⟩ | ⟨E,_⟩
    ·refine k2 ?_;refine A7 (A6 (A8 Z Z) Z (A6 (B7 Z) Z (A6 (B1 Z) Z (A6 (B2 Z Z Z) Z (A6 (C9 Z Z (by omega)) Z (A6 (B7 Z) Z (A6 (B1 Z) Z (F4 (C2 TySz.out Z Z Z Z Z Z) (B0 ?_)))))))));refine k1 (k2 ?_);refine G8 (fr':=[(0,.s (.one (.ref 705 0))),(4,C7 i)]++gf) (ob':=[(705,W9 s (i+1))]) (A00 ⟨B5 rfl,B5 rfl,trivial⟩ D (by repeat (first | exact C5 | refine C3 rfl ?_)) (ObIn.spec (ob':=[(705,_)]) ⟨rfl,trivial⟩)) ?_;refine A7 (A6 (A9 Z Z) Z (B0 ?_));refine k1 (k2 ?_);refine A7 (A6 (A8 Z Z) Z (R4 (wA s (i+1) m.1 (by omega)) Z Z Z ?_));rintro _ _ ⟨w',b,R,rfl,rfl,G,B⟩;refine A6 (A8 Z Z) Z (A6 (B6 Z Z) Z (A6 (B6 Z Z) Z (A6 (A9 Z Z) Z (A6 (A9 Z Z) Z (B0 ?_)))));rw[d]at B;obtain⟨rfl,rfl,rfl⟩:=B;refine k1 (k2 ?_);refine A7 (A6 (A8 Z Z) Z (A6 (G7 Z) Z (B0 ?_)));refine k1 ?_;refine B8 rfl (fun q=>?_) (fun q=>?_)
     ·cases q
     refine k5 (k1 ?_);exact A00 ⟨B5 rfl,B5 rfl,B5 rfl,trivial⟩ (M9 D) (by repeat (first | exact C5 | refine C3 rfl ?_ | refine J6 _ ?_ | refine D3 _ ?_)) (ObIn.spec (ob':=[(705,_)]) ⟨rfl,trivial⟩)
    ·exact absurd m E
   ·have m:=A1 q;rcases hwj with ⟨J,O,_⟩ | ⟨_,hw,G⟩
    ·exact absurd ⟨J,O⟩ m
    have L:=gZ (p:=L8) s i;rw[<-hw]at L;refine k2 (k3 ?_);refine E3 (X:=Nat) (fun k=>([(0,.s (.one (.ref 705 0))),(4,C7 i)]++gf,[(705,W9 s (i+k))])) (fun k=>k<=w.length) (fun k=>w.length-k) 0 (Nat.zero_le _) ?_ ?_
    ·exact A00 ⟨B5 rfl,B5 rfl,trivial⟩ D (by repeat (first | exact C5 | refine C3 rfl ?_)) (ObIn.spec (ob':=[(705,_)]) ⟨rfl,trivial⟩)
    intro k K;dsimp only at K ⊢;have z:=aB (p:=L8) (s.drop i) k (by rw[<-hw];exact K);rw[<-hw,A60]at z;obtain⟨c,P⟩:∃c,c=s.getD (i+k) 0:=⟨_,rfl⟩
    have M:i+k<s.length->s[i+k]?=some c:=fun h=>by rw[P];exact gD h
    have C:(if decide (((i+k:Nat):Int)<(s.length:Int))=true then L8 c else false)=decide (k<w.length):=by
     rw[<-z];by_cases u:i+k<s.length
     ·rw[M u,A4 (A2 (by omega))]
     ·rw[A52 (by omega),A5 (by simp;omega)]
    refine k2 (k2 ?_);refine D8 (by kernel_rfl) (by kernel_rfl) (B3 (A8 Z Z) Z Z (B3 (B7 Z) Z Z (B3 (B1 Z) Z Z (B3 (B2 Z Z Z) Z Z (B3 (A8 Z Z) Z Z (B3 (B7 Z) Z Z (B3 (B1 Z) Z Z (B3 (B2 Z Z Z) Z Z (B3 (G4 Z) Z Z (B3 (F2 Z Z) Z Z (B3 (A8 Z Z) Z Z (C6 Z Z (fun d=>by rw[d];exact A8 Z Z) Z Z ?_))))))))))));refine C6 Z Z (fun d=>by rw[d];exact B7 Z) Z Z ?_;refine C6 Z Z (fun d=>by rw[d];exact B1 Z) Z Z ?_;refine C6 Z Z (fun d=>by rw[d];exact B2 Z Z Z) Z Z ?_;refine C6 Z Z (fun d=>by rw[d];exact A8 Z Z) Z Z ?_;refine C6 Z Z (fun d=>by rw[d];exact B7 Z) Z Z ?_;refine C6 Z Z (fun d=>by rw[d];exact B1 Z) Z Z ?_;refine C6 Z Z (fun d=>by rw[d];exact B2 Z Z Z) Z Z ?_;refine C6 Z Z (fun d=>by have m:=d;(try simp at m);rw[d];exact K0 Z Z (by omega) (M (by omega))) Z Z ?_;refine C6 Z Z (fun d=>by have m:=d;(try simp at m);rw[d];exact H4 (qV c) Z Z) Z Z ?_;refine B3 (B9 Z (fun h=>by first | rfl | (rw[h];rfl)) (fun h=>by first | rfl | (rw[h];rfl))) Z Z ?_;refine J8 ?_;rw[C];refine k1 ?_;refine B8 rfl (fun q=>?_) (fun q=>?_)
    ·have u:=A0 q;refine k5 (k1 (k3 ?_));refine A7 (A6 (A8 Z Z) Z (A6 (B7 Z) Z (A6 (B1 Z) Z (A6 (B2 Z Z Z) Z (A6 (C9 Z Z (by omega)) Z (A6 (B7 Z) Z (A6 (B1 Z) Z (F4 (C2 TySz.out Z Z Z Z Z Z) (B0 ?_)))))))));refine k4 (k1 ?_);exact⟨k+1,u,by omega,A00 ⟨B5 rfl,B5 rfl,trivial⟩ D (by repeat (first | exact C5 | refine C3 rfl ?_)) (ObIn.spec (ob':=[(705,_)]) ⟨rfl,trivial⟩)⟩
    ·have H:k=w.length:=by have:=A1 q;omega
     subst H;refine k6 (k7 (k7 (k8 Z (k1 ?_))));refine D8 (by kernel_rfl) (by kernel_rfl) (B3 (A8 Z Z) Z Z (B3 (B7 Z) Z Z (B3 (B1 Z) Z Z (B3 (B2 Z Z Z) Z Z (B3 (A8 Z Z) Z Z (B3 (A8 Z Z) Z Z (B3 (B7 Z) Z Z (B3 (B1 Z) Z Z (B3 (B2 Z Z Z) Z Z (B3 (fQ Z Z Z (by omega) (by omega) (by omega)) Z Z (B3 (A9 Z Z) Z Z (J8 ?_))))))))))));have I:(s.drop i).take (i+w.length-i)=w:=by rw[Nat.add_sub_cancel_left,hw];exact aC _
     rw[A36,A36,I];refine k1 ?_;refine Sees.trans (Sees.forget 706) ?_;subst G;exact A00 ⟨B5 rfl,B5 rfl,B5 rfl,trivial⟩ (M9 D) (by repeat (first | exact C5 | refine C3 rfl ?_ | refine J6 _ ?_ | refine D3 _ ?_)) (ObIn.spec (ob':=[(705,_)]) ⟨rfl,trivial⟩)
  ·refine k2 ?_;refine D8 (by kernel_rfl) (by kernel_rfl) (B3 (A8 Z Z) Z Z (B3 (A8 Z Z) Z Z (B3 (H4 (fZ w (by omega)) Z Z) Z Z (B3 (A8 Z Z) Z Z (B3 (B7 Z) Z Z (B3 (B1 Z) Z Z (B3 (B2 Z Z Z) Z Z (B3 (A8 Z Z) Z Z (B3 (A8 Z Z) Z Z (B3 (B7 Z) Z Z (B3 (B1 Z) Z Z (B3 (B2 Z Z Z) Z Z (B3 (fQ Z Z Z (by omega) (by omega) (by omega)) Z Z (B3 (c7 Z Z) Z Z (B3 (A9 Z Z) Z Z (B3 (A9 Z Z) Z Z (J8 ?_)))))))))))))))));rw[A36,A36];refine k1 (G5 ?_);refine G1 (bO rfl rfl rfl) (by repeat (first | exact C5 | refine C3 rfl ?_ | refine D3 _ ?_)) (fun _ _ h=>h) ⟨w,_,j,rfl,rfl,hjl,?_⟩;rw[hW];by_cases y:L9 w=(s.drop i).take (j-i)
   ·rw[A4 y];exact⟨A2 y,rfl,by omega⟩
   ·rw[A5 y];exact A3 y
def wC(s:Str)(i:Nat):List PV:=match aL (s.drop i) with
 | none=>[F9 [],E2 0,F3 false]
 | some (w,k)=>[F9 w,E2 ((i+k:Nat):Int),F3 true]
theorem HH(s:Str)(i:Nat)(f:i<=s.length)(hs:s.length<=16777216):FnOk Tryz.prog 156 [F9 s,E2 i] (fun rs=>rs=wC s i):=by
 refine FnOk.intro Tryz.func156 (by decide) Z Z Z Z ?_;refine k2 ?_;refine A7 (A6 (A9 Z Z) Z (A6 (A9 Z Z) Z (A6 (A9 Z Z) Z (B0 ?_))));refine k1 (k2 (k2 ?_));refine A7 (A6 (A8 Z Z) Z (A6 (F2 Z Z) Z (A6 (A8 Z Z) Z (B4 Z Z Z Z (fun c=>by rw[c];exact A8 Z Z) ?_))));refine B4 Z Z Z Z (fun c=>by rw[c];exact A8 Z Z) ?_;refine B4 Z Z Z Z (fun c=>by rw[c];exact G4 Z) ?_;refine B4 Z Z Z Z (fun c=>by rw[c];exact P8 Z Z) ?_;refine A6 (B9 Z (fun h=>by first | rfl | (rw[h];rfl)) (fun h=>by first | rfl | (rw[h];rfl))) Z ?_;refine B0 ?_;refine k1 ?_;refine B8 rfl (fun a=>?_) (fun a=>?_)
 ·exfalso;revert a;simp only[or_pick];simp;omega
 refine k5 (k1 (k2 ?_));refine A7 (A6 (A8 Z Z) Z (A6 (A8 Z Z) Z (A6 (F8 Z) Z (D2 (Y7 705 Z Z Z) Z (A6 (A9 Z Z) Z (B0 ?_))))));refine k1 (k2 ?_);refine A7 (A6 (A8 Z Z) Z (R4 (UT s i f hs) Z Z Z ?_));rintro _ _ ⟨w,b,j,rfl,rfl,g,d⟩;refine A6 (A8 Z Z) Z (A6 (B6 Z Z) Z (A6 (B6 Z Z) Z (A6 (A9 Z Z) Z (A6 (A9 Z Z) Z (B0 ?_)))));refine k1 (k2 (k2 ?_));refine A7 (A6 (A8 Z Z) Z (A6 (G7 Z) Z (B0 ?_)));refine k1 ?_;cases e:aL (s.drop i) with
 | none =>
  rw[e]at d;have d:b=false:=d;subst d;refine B8 rfl (fun a=>?_) (fun a=>?_)
  ·refine k2 ?_;refine A7 (A6 (A9 Z Z) Z (A6 (A9 Z Z) Z (A6 (A9 Z Z) Z (B0 ?_))));refine k1 (G5 (I2 ?_));exact C0 (rs:=[F9 [],E2 0,F3 false]) (FI rfl rfl rfl rfl rfl rfl rfl) (by unfold wC;rw[e])
  ·cases a
 | some q =>
  obtain⟨w',k⟩:=q;rw[e]at d;obtain⟨rfl,rfl,rfl⟩:=d;refine B8 rfl (fun a=>?_) (fun a=>?_)
  ·cases a
  refine k5 (k1 (k2 ?_));refine D8 (by kernel_rfl) (by kernel_rfl) (B3 (A8 Z Z) Z Z (B3 (A8 Z Z) Z Z (B3 (B7 Z) Z Z (B3 (B1 Z) Z Z (B3 (B2 Z Z Z) Z Z (B3 (A9 Z Z) Z Z (B3 (A9 Z Z) Z Z (B3 (A9 Z Z) Z Z (J8 ?_)))))))));refine k1 (G5 ?_);exact C0 (rs:=[F9 w,E2 ((i+k:Nat):Int),F3 true]) (FI rfl rfl rfl rfl rfl rfl rfl) (by unfold wC;rw[e])
theorem QH{gf:Fr}{ob:Obs}(s:Str)(i:Nat)(w:Str)(J:i<s.length)(hs:s.length<=16777216)(m:(s.drop i).takeWhile L8=w)(v:w≠[])(F:D4 ob 705=some (W9 s i)) :
  AL.Met Tryz.prog 235 [.one (.ref 705 0)] gf ob [] (fun rs ob'=>rs=[(F9 w).s1,LN true]/\ob'=(705,W9 s (i+w.length))::ob):=by
 have K:=gZ (p:=L8) s i;rw[m]at K;have B:w.all L8=true:=by rw[<-m];exact List.all_takeWhile
 have q:¬(s.getD i 0).toNat=34:=by
  intro H;have D:=aB (p:=L8) (s.drop i) 0 (Nat.zero_le _);rw[m,A60,Nat.add_zero,gD J]at D;have G:L8 (s.getD i 0)=true:=by
   have A:L8 (s.getD i 0)=decide (0<w.length):=D;rw[A];exact A2 (List.length_pos_iff.2 v)
  have M:=A0 G;omega
 refine AL.Met.introH Tryz.func235 (by decide) rfl rfl rfl (fun y=>?_);refine G8 (A00 (l:=[(0,.s (.one (.ref 705 0)))]) (ob':=(705,W9 s i)::ob) ⟨B5 rfl,trivial⟩ y (by repeat (first | exact C5 | refine C3 rfl ?_)) (dZ (L:=[(705,_)]) ⟨F,trivial⟩ bU)) ?_;refine k2 ?_;refine A7 (A6 (A9 Z Z) Z (A6 (A9 Z Z) Z (B0 ?_)));refine k1 (k2 ?_);refine A7 (A6 (A8 Z Z) Z (A6 (B7 Z) Z (A6 (B1 Z) Z (A6 (B2 Z Z Z) Z (A6 (A9 Z Z) Z (B0 ?_))))));refine k1 (k2 ?_);refine A7 (A6 (A9 Z Z) Z (B0 ?_));refine k1 (k2 (k2 ?_));refine A7 (A6 (A8 Z Z) Z (A6 (A8 Z Z) Z (A6 (B7 Z) Z (A6 (B1 Z) Z (A6 (B2 Z Z Z) Z (A6 (G4 Z) Z (A6 (F2 Z Z) Z (A6 (A8 Z Z) Z (B4 Z Z Z Z (fun b=>by rw[b];exact A8 Z Z) ?_)))))))));refine B4 Z Z Z Z (fun b=>by rw[b];exact B7 Z) ?_;refine B4 Z Z Z Z (fun b=>by rw[b];exact B1 Z) ?_;refine B4 Z Z Z Z (fun b=>by rw[b];exact B2 Z Z Z) ?_;refine B4 Z Z Z Z (fun b=>by rw[b];exact A8 Z Z) ?_;refine B4 Z Z Z Z (fun b=>by have q:=b;(try simp at q);rw[b];exact K0 Z Z (by omega) (gD (by omega))) ?_;refine B4 Z Z Z Z (fun b=>by rw[b];exact I3 Z Z) ?_;refine A6 (B9 Z (fun h=>by first | rfl | (rw[h];rfl)) (fun h=>by first | rfl | (rw[h];rfl))) Z ?_;refine B0 ?_;simp only[and_pick,A36];refine k1 ?_;refine B8 rfl (fun u=>?_) (fun u=>?_)
 ·exfalso;have:=A0 u;omega
 refine k2 (k3 ?_);refine E3 (X:=Nat) (fun k=>([(0,.s (.one (.ref 705 0))),(4,C7 i)]++gf,(705,W9 s (i+k))::ob)) (fun k=>k<=w.length) (fun k=>w.length-k) 0 (Nat.zero_le _) ?_ ?_
 ·exact A00 ⟨B5 rfl,B5 rfl,trivial⟩ y (by repeat (first | exact C5 | refine C3 rfl ?_)) (fun _ _ h=>h)
 intro k C;dsimp only at C ⊢;have d:=aB (p:=L8) (s.drop i) k (by rw[m];exact C);rw[m,A60]at d;obtain⟨c,I⟩:∃c,c=s.getD (i+k) 0:=⟨_,rfl⟩
 have E:i+k<s.length->s[i+k]?=some c:=fun h=>by rw[I];exact gD h
 have j:(if decide (((i+k:Nat):Int)<(s.length:Int))=true then L8 c else false)=decide (k<w.length):=by
  rw[<-d];by_cases g:i+k<s.length
  ·rw[E g,A4 (A2 (by omega))]
  ·rw[A52 (by omega),A5 (by simp;omega)]
 refine k2 (k2 ?_);refine D8 (by kernel_rfl) (by kernel_rfl) (B3 (A8 Z Z) Z Z (B3 (B7 Z) Z Z (B3 (B1 Z) Z Z (B3 (B2 Z Z Z) Z Z (B3 (A8 Z Z) Z Z (B3 (B7 Z) Z Z (B3 (B1 Z) Z Z (B3 (B2 Z Z Z) Z Z (B3 (G4 Z) Z Z (B3 (F2 Z Z) Z Z (B3 (A8 Z Z) Z Z (C6 Z Z (fun b=>by rw[b];exact A8 Z Z) Z Z ?_))))))))))));refine C6 Z Z (fun b=>by rw[b];exact B7 Z) Z Z ?_;refine C6 Z Z (fun b=>by rw[b];exact B1 Z) Z Z ?_;refine C6 Z Z (fun b=>by rw[b];exact B2 Z Z Z) Z Z ?_;refine C6 Z Z (fun b=>by rw[b];exact A8 Z Z) Z Z ?_;refine C6 Z Z (fun b=>by rw[b];exact B7 Z) Z Z ?_;refine C6 Z Z (fun b=>by rw[b];exact B1 Z) Z Z ?_;refine C6 Z Z (fun b=>by rw[b];exact B2 Z Z Z) Z Z ?_;refine C6 Z Z (fun b=>by have q:=b;(try simp at q);rw[b];exact K0 Z Z (by omega) (E (by omega))) Z Z ?_;refine C6 Z Z (fun b=>by have q:=b;(try simp at q);rw[b];exact H4 (qV c) Z Z) Z Z ?_;refine B3 (B9 Z (fun h=>by first | rfl | (rw[h];rfl)) (fun h=>by first | rfl | (rw[h];rfl))) Z Z ?_;refine J8 ?_;rw[j];refine k1 ?_;refine B8 rfl (fun u=>?_) (fun u=>?_)
 ·have g:=A0 u;refine k5 (k1 (k3 ?_));refine A7 (A6 (A8 Z Z) Z (A6 (B7 Z) Z (A6 (B1 Z) Z (A6 (B2 Z Z Z) Z (A6 (C9 Z Z (by omega)) Z (A6 (B7 Z) Z (A6 (B1 Z) Z (F4 (C2 TySz.out Z Z Z Z Z Z) (B0 ?_)))))))));refine k4 (k1 ?_);exact⟨k+1,g,by omega,A00 ⟨B5 rfl,B5 rfl,trivial⟩ y (by repeat (first | exact C5 | refine C3 rfl ?_)) rE⟩
 have z:k=w.length:=by have:=A1 u;omega
 subst z;refine k6 (k7 (k7 (k8 Z (k1 ?_))));refine D8 (by kernel_rfl) (by kernel_rfl) (B3 (A8 Z Z) Z Z (B3 (B7 Z) Z Z (B3 (B1 Z) Z Z (B3 (B2 Z Z Z) Z Z (B3 (A8 Z Z) Z Z (B3 (A8 Z Z) Z Z (B3 (B7 Z) Z Z (B3 (B1 Z) Z Z (B3 (B2 Z Z Z) Z Z (B3 (fQ Z Z Z (by omega) (by omega) (by omega)) Z Z (B3 (A9 Z Z) Z Z (J8 ?_))))))))))));have x:(s.drop i).take (i+w.length-i)=w:=by
  rw[Nat.add_sub_cancel_left]
  conv=>rhs;rw[<-m]
  rw[<-m];exact aC _
 rw[A36,A36,x];refine k1 (k2 ?_);refine D8 (by kernel_rfl) (by kernel_rfl) (B3 (A8 Z Z) Z Z (B3 (A8 Z Z) Z Z (B3 (H4 (fZ w (by omega)) Z Z) Z Z (B3 (A8 Z Z) Z Z (B3 (B7 Z) Z Z (B3 (B1 Z) Z Z (B3 (B2 Z Z Z) Z Z (B3 (A8 Z Z) Z Z (B3 (A8 Z Z) Z Z (B3 (B7 Z) Z Z (B3 (B1 Z) Z Z (B3 (B2 Z Z Z) Z Z (B3 (fQ Z Z Z (by omega) (by omega) (by omega)) Z Z (B3 (c7 Z Z) Z Z (B3 (A9 Z Z) Z Z (B3 (A9 Z Z) Z Z (J8 ?_)))))))))))))))));rw[A36,A36,x,IZ v B];refine k1 (G5 ?_);exact G1 (bO rfl rfl rfl) (by repeat (first | exact C5 | refine C3 rfl ?_ | refine D3 _ ?_)) (fun _ _ h=>h) ⟨(by rw[A2 rfl];rfl),rfl⟩
theorem LP(d:List Str)(B:d≠[])(F:∀w∈d,w≠[]/\w.all L8=true)(hs:(R3 d).length<=1048576) :
  FnOk Tryz.prog 179 [F9 (R3 d)] (fun rs=>rs=[T0 d,F3 true]):=by
 obtain⟨s,q⟩:∃s,s=R3 d:=⟨_,rfl⟩
 have C:s≠[]:=by
  obtain⟨w,r,rfl⟩:=List.exists_cons_of_ne_nil B;have z:=IY w r;have L:=List.length_pos_iff.2 (F w (List.mem_cons_self ..)).1;intro e;rw[<-q,e]at z;simp only[A38]at z;omega
 rw[<-q]at hs ⊢;refine FnOk.intro Tryz.func179 (by decide) Z Z Z Z ?_;refine k2 ?_;refine A7 (A6 (A9 Z Z) Z (A6 (A9 Z Z) Z (B0 ?_)));refine k1 (k2 (k2 ?_));refine A7 (A6 (A8 Z Z) Z (A6 (c7 Z Z) Z (B0 ?_)));refine k1 ?_;refine B8 rfl (fun j=>?_) (fun j=>?_)
 ·exact absurd (A0 j) C
 refine k5 (k1 (k2 ?_));refine A7 (A6 (A8 Z Z) Z (A6 (F8 Z) Z (D2 (Y7 705 Z Z Z) Z (A6 (A9 Z Z) Z (B0 ?_)))));refine k1 (k2 ?_);refine A7 (A6 (A8 Z Z) Z (A6 (gQ Z Z) Z (A6 (A9 Z Z) Z (B0 ?_))));refine k1 (k2 ?_);refine A7 (D2 (r5 850 _ J9 Z) Z (B0 ?_));refine k1 (k3 ?_);refine E3 (X:=Nat×Nat) (fun x=>([(0,P3 s),(4,.s (.one (.ref 705 0))),(5,.s (.one (.clo 235 [(705,0)] []))),(6,.s (.one (.buf 850 Str 1 J9 (d.take x.1))))],[(705,W9 s x.2),(850,.spare (d.take x.1).length 1 9)])) (fun x=>x.1<d.length/\s.drop x.2=R3 (d.drop x.1)/\x.2<s.length) (fun x=>d.length-x.1) (0,0) ⟨List.length_pos_iff.2 B,by rw[List.drop_zero,List.drop_zero];exact q,List.length_pos_iff.2 C⟩ (Sees.of ⟨B5 rfl,B5 rfl,B5 rfl,B5 rfl,trivial⟩ ⟨rfl,rfl,trivial⟩) ?_;rintro⟨k,i⟩ ⟨G,v,M⟩;dsimp only at G v M ⊢;obtain⟨w,E⟩:∃w,w=d[k]:=⟨_,rfl⟩
 have N:d[k]?=some w:=by rw[E];exact A32 G
 obtain⟨J,K⟩:=F w (A53 N);rw[A41 G,<-E]at v;have I:(s.drop i).takeWhile L8=w:=by rw[v];exact SI K _
 have D:d.take (k+1)=d.take k++[w]:=by rw[List.take_add_one,N];rfl
 have hkl:(d.take k).length<=1048576:=by
  have z:=List.length_take_le' k d;have L:=yG d fun w P=>(F w P).1;rw[<-q]at L;omega
 have m:=congrArg List.length v;rw[A47]at m;refine k3 (k2 ?_);refine A7 (A6 (A8 Z Z) Z (aW (QH s i w M (by omega) I J Z) Z Z Z Z ?_));rintro _ _ ⟨rfl,rfl⟩;refine A6 (A8 Z Z) Z (A6 (B6 Z Z) Z (A6 (B6 Z Z) Z (A6 (A9 Z Z) Z (A6 (A9 Z Z) Z (B0 ?_)))));refine k1 (k2 (k2 ?_));refine A7 (A6 (A8 Z Z) Z (A6 (G7 Z) Z (B0 ?_)));refine k1 ?_;refine B8 rfl (fun j=>?_) (fun j=>?_)
 ·cases j
 refine k5 (k1 (k2 ?_));refine A7 (A6 (A8 Z Z) Z (A6 (A8 Z Z) Z (A6 (E0 (c:=J9) (ys:=[w]) (D9 Z Z Z Z H2) Z Z Z) Z (D2 (L1 Z Z Z (.pure _ _ _ _) (by (simp only[A34,A38];omega)) Z) Z (A6 (A9 Z Z) Z (B0 ?_))))));refine k1 (k2 (k2 ?_));refine A7 (A6 (A8 Z Z) Z (A6 (B7 Z) Z (A6 (B1 Z) Z (A6 (B2 Z Z Z) Z (A6 (A8 Z Z) Z (A6 (G4 Z) Z (A6 (I3 Z Z) Z (B0 ?_))))))));refine k1 ?_;rcases y:d.drop (k+1) with _ | ⟨x,r⟩
 ·rw[y]at v m;rw[xY]at m;refine B8 rfl (fun j=>?_) (fun j=>?_);rotate_left
  ·exact absurd (show ((i+w.length:Nat):Int)=s.length by omega) (A1 j)
  refine k2 ?_;refine A7 (A6 (A8 Z Z) Z (A6 (A9 Z Z) Z (A6 (A9 Z Z) Z (B0 ?_))));refine k1 (G5 (I2 (R5 (I2 (R5 ?_)))));refine C0 (rs:=[T0 (d.take k++[w]),F3 true]) (R0 Z Z Z Z Z) ?_;have O:d=d.take (k+1):=by
   have z:=A68 (k+1) d;rw[y,A71]at z;exact z.symm
  rw[<-D,<-O]
 ·rw[y,gH]at v;rw[y,gH,A35,A34]at m;have H:s[i+w.length]?=some 32:=by
   rw[<-A60,v,A51 (Nat.le_refl _),A80];rfl
  refine B8 rfl (fun j=>?_) (fun j=>?_)
  ·have:=A0 j;omega
  refine k5 (k1 (k2 (k2 ?_)));refine A7 (A6 (A8 Z Z) Z (A6 (A8 Z Z) Z (A6 (B7 Z) Z (A6 (B1 Z) Z (A6 (B2 Z Z Z) Z (A6 (K0 Z Z (by omega) (by rw[A36];exact H)) Z ?_))))));refine A6 (K4 Z Z) Z (B0 ?_);refine k1 ?_;refine B8 rfl (fun j=>?_) (fun j=>?_)
  ·exact absurd rfl (A0 j)
  refine k5 (k1 ?_);refine A7 (A6 (A8 Z Z) Z (A6 (B7 Z) Z (A6 (B1 Z) Z (A6 (B2 Z Z Z) Z (A6 (C9 Z Z (by omega)) Z (A6 (B7 Z) Z (A6 (B1 Z) Z (F4 (C2 TySz.out Z Z Z Z Z Z) (B0 ?_)))))))));refine k4 (k1 ?_);have A:k+1<d.length:=by
   have:=congrArg List.length y;rw[A47,A34]at this;omega
  refine⟨(k+1,i+w.length+1),⟨A,?_,by dsimp only;have:=IY x r;have:=List.length_pos_iff.2 (F x (List.mem_of_mem_drop (by rw[y];exact List.mem_cons_self ..))).1;omega⟩,by dsimp only;omega,?_⟩
  ·dsimp only;rw[y,Nat.add_assoc,<-List.drop_drop,v];exact SR _ _ _
  ·dsimp only;rw[D];exact Sees.of ⟨B5 rfl,B5 rfl,B5 rfl,B5 rfl,trivial⟩ ⟨rfl,rfl,trivial⟩
theorem UU(f:CForm)(c:List Str)(hw:∀w∈c,w.length<=1048576)(hl:c.length<=1048576) :
  FnOk Tryz.prog 180 [VX f,T0 c] (fun rs=>rs=[iR ((dO f c).getD nP),F3 (dO f c).isSome]):=by
 have k:=JF f c;obtain⟨L,U⟩:∃L,L=b9 f:=⟨_,rfl⟩
 obtain⟨W,J⟩:∃W,W=mS f c:=⟨_,rfl⟩
 obtain⟨H,B⟩:∃H,H=yF f c:=⟨_,rfl⟩
 obtain⟨R,hR⟩:∃R,R=dO f c:=⟨_,rfl⟩
 have ac:∀w∈W,w.length<=1048576:=fun w h=>hw w (SP (by rw[<-J];exact h));have ab:=SQ f c;have V:=IV f;rw[<-U,<-J,<-B,<-hR]at k;rw[<-J]at ab;rw[<-U]at V;rw[<-hR];refine FnOk.intro Tryz.func180 (by decide) Z Z Z Z ?_;refine k2 ?_;refine A7 (D2 (Y7 2 Z Z Z) Z (D2 (G3 4 Z) Z (A6 (A9 Z Z) Z (B0 ?_))));refine k1 (k2 ?_);refine A7 (A6 (B1 Z) Z (A6 (B2 Z Z Z) Z (A6 (B1 Z) Z (A6 (B2 Z Z Z) Z (A6 (F8 Z) Z (D2 (G3 6 Z) Z (F4 (C2 TySz.out Z Z Z Z Z Z) (B0 ?_))))))));refine k1 (k2 ?_);refine A7 (A6 (E7 Z Z Z) Z (R4 (oS f Z Z) Z Z Z ?_));rintro _ _ ⟨rfl,rfl⟩;refine A6 (A9 Z Z) Z (B0 ?_);rw[<-U];refine k1 (k2 (k2 ?_));refine A7 (A6 (B1 Z) Z (A6 (B2 Z Z Z) Z (B0 ?_)));refine k1 ?_;refine vS (X:=Unit) (fun _=>([(1,D7 Str 1 J9 W),(4,.s (.one (.ref 4 0))),(6,.s (.one (.ref 6 0))),(7,.s (.one (.mut 751)))],[(4,.box (pT nP)),(6,.box (pT H)),(751,QB L)])) (fun _=>¬(f.text=true/\c=[])) ?_ ?_
 ·skip;refine B8 rfl (fun d=>?_) (fun d=>?_)
  ·have hb:f.text=true:=d;refine k2 (k2 ?_);refine A7 (A6 (A8 Z Z) Z (A6 (F0 Z (.pure _ _ _ _)) Z (A6 (I3 Z Z) Z (B0 ?_))));refine k1 ?_;refine B8 rfl (fun d=>?_) (fun d=>?_)
   ·have he:c=[]:=by
     have I:=A0 d;exact List.length_eq_zero_iff.1 (by omega)
    rw[A4 ⟨hb,he⟩]at k;refine k2 ?_;refine A7 (A6 (F8 Z) Z (F4 (C2 TySz.out Z Z Z Z Z Z) (A6 (A9 Z Z) Z (B0 ?_))));refine k1 (G5 (I2 (I2 ?_)));exact C0 (rs:=[iR nP,F3 false]) (d8 rfl rfl rfl rfl rfl rfl rfl) (by rw[k];rfl)
   have q:¬c=[]:=fun e=>by
    have I:=A1 d;rw[e]at I;exact I rfl
   have ag:=List.length_pos_iff.2 q;have F:c[((c.length:Int)-1).toNat]?=some (c.getLastD []):=by
    rw[show ((c.length:Int)-1).toNat=c.length-1 by omega,<-List.getLast?_eq_getElem?,List.getLastD_eq_getLast?];cases h:c.getLast? with
    | none=>exact absurd (List.getLast?_eq_none_iff.1 h) q
    | some x=>rfl
   have ae:c.take ((c.length:Int)-1).toNat=W:=by
    rw[J];unfold mS;rw[A4 hb,List.dropLast_eq_take,show ((c.length:Int)-1).toNat=c.length-1 by omega]
   have C:H=⟨f.kind,0,0,0,f.dense,c.getLastD []⟩:=by rw[B];unfold yF;rw[A4 hb]
   subst C;refine k5 (k1 (k2 ?_));refine A7 (A6 (A8 Z Z) Z (A6 (A8 Z Z) Z (A6 (F0 Z (.pure _ _ _ _)) Z (A6 (K3 Z Z (by omega)) Z (A6 (C1 Z (.pure _ _ _ _) Z (by omega) F) Z (A6 (D1 Z Z) Z (A6 (B1 Z) Z (F4 (C2 TySz.out Z Z Z Z Z Z) (B0 ?_)))))))));refine k1 ?_;refine A7 (A6 (A8 Z Z) Z (A6 (A8 Z Z) Z (A6 (F0 Z (.pure _ _ _ _)) Z (A6 (K3 Z Z (by omega)) Z (A6 (qI Z (.pure _ _ _ _) Z (by omega) (by omega)) Z (A6 (A9 Z Z) Z (B0 ?_)))))));rw[ae];refine k1 ?_;exact⟨(),(fun h=>q h.2),(Sees.of ⟨B5 rfl,B5 rfl,B5 rfl,B5 rfl,trivial⟩ ⟨rfl,rfl,rfl,trivial⟩)⟩
  ·have hb:f.text=false:=d;have C:H=⟨f.kind,0,0,0,f.dense,[]⟩:=by rw[B];unfold yF;rw[A5 (by rw[hb];decide)]
   have Y:W=c:=by rw[J];unfold mS;rw[A5 (by rw[hb];decide)]
   subst C Y;refine k5 (k1 ?_);exact⟨(),(fun h=>by rw[hb]at h;cases h.1),(Sees.of ⟨B5 rfl,B5 rfl,B5 rfl,B5 rfl,trivial⟩ ⟨rfl,rfl,rfl,trivial⟩)⟩
 rintro _ K;dsimp only;rw[A5 K]at k;refine k2 (k2 ?_);refine A7 (A6 (A8 Z Z) Z (A6 (F0 Z (.pure _ _ _ _)) Z (A6 (A8 Z Z) Z (A6 (GI Z Z) Z (A6 (K4 Z Z) Z (B0 ?_))))));refine k1 ?_;refine B8 rfl (fun d=>?_) (fun d=>?_)
 ·have q:W.length≠L.length:=fun e=>by
   have I:=A0 d;omega
  rw[A4 q]at k;refine k2 ?_;refine A7 (A6 (F8 Z) Z (F4 (C2 TySz.out Z Z Z Z Z Z) (A6 (A9 Z Z) Z (B0 ?_))));refine k1 (G5 (I2 ?_));exact C0 (rs:=[iR nP,F3 false]) (d8 rfl rfl rfl rfl rfl rfl rfl) (by rw[k];rfl)
 have A:W.length=L.length:=by have I:=A1 d;omega
 rw[A5 (fun e=>e A)]at k;refine k5 (k1 (k2 (k2 ?_)));refine A7 (A6 (A8 Z Z) Z (A6 (F0 Z (.pure _ _ _ _)) Z (A6 (A8 Z Z) Z (B0 ?_))));refine k1 (k3 ?_);refine E3 (X:=Nat×Cmd) (fun x=>([(4,.s (.one (.ref 4 0))),(6,.s (.one (.ref 6 0))),(7,.s (.one (.mut 751))),(44,D7 Str 1 J9 W),(45,C7 W.length),(46,C7 x.1)],[(4,.box (pT nP)),(6,.box (pT x.2)),(751,QB L)])) (fun x=>x.1<=L.length/\R=iT (L.drop x.1) (W.drop x.1) x.2) (fun x=>L.length-x.1) (0,H) ⟨Nat.zero_le _,k⟩ (Sees.of ⟨B5 rfl,B5 rfl,B5 rfl,B5 rfl,B5 rfl,B5 rfl,trivial⟩ ⟨rfl,rfl,rfl,trivial⟩) ?_;rintro⟨j,cj⟩ ⟨hj,y⟩;dsimp only at hj y ⊢;refine k2 ?_;refine A7 (A6 (F2 Z Z) Z (B0 ?_));refine k1 (k2 ?_);refine B8 rfl (fun d=>?_) (fun d=>?_);rotate_left
 ·have ad:j=L.length:=by have:=A1 d;omega
  rw[ad,List.drop_length,<-A,List.drop_length]at y;unfold iT at y;refine k6 (k2 ?_);refine A7 (A6 (E7 Z Z Z) Z (F4 (C2 TySz.out Z Z Z Z Z Z) (A6 (A9 Z Z) Z (B0 ?_))));refine k1 (G5 ?_);exact C0 (rs:=[iR cj,F3 true]) (d8 rfl rfl rfl rfl rfl rfl rfl) (by rw[y];rfl)
 have E:j<L.length:=by have:=A0 d;omega
 have O:j<W.length:=by omega
 obtain⟨o,ho⟩:∃o,o=L[j]:=⟨_,rfl⟩
 have Q:L[j]?=some o:=by rw[ho];exact A32 E
 obtain⟨w,T⟩:∃w,w=W[j]:=⟨_,rfl⟩
 have G:W[j]?=some w:=by rw[T];exact A32 O
 have ah:=ac w (A53 G);have P:=PE (f:=f) (o:=o) (by rw[<-U];exact A53 Q);have af:(UR L)[((j:Nat):Int).toNat*1+0]?=some (.ref 6 o):=by rw[A36,Nat.mul_one,Nat.add_zero,A69,Q];rfl
 have M:Nat.ble (o+1) 6=true:=by rcases P with rfl | rfl | rfl<;>rfl
 rw[A41 E,<-ho,A41 O,<-T,iT]at y;have v:=gY w 0 (Nat.zero_le _) (by omega);cases z:p7 w with
 | none =>
  rw[z]at y;rw[rC (by rw[List.drop_zero];exact z)]at v;refine k5 (k1 (k2 (k3 (k2 ?_))));refine A7 (A6 (A8 Z Z) Z (A6 (C1 Z (.pure _ _ _ _) Z (by omega) G) Z (A6 (D1 Z Z) Z (A6 (A9 Z Z) Z (A6 (A9 Z Z) Z (B0 ?_))))));refine k1 (k2 ?_);refine A7 (A6 (A8 Z Z) Z (C4 (v) Z Z Z ?_));rintro _ rfl;refine A6 (A8 Z Z) Z (A6 (B6 Z Z) Z (A6 (B6 Z Z) Z (A6 (B6 Z Z) Z (A6 (A9 Z Z) Z (A6 (A9 Z Z) Z (A6 (A9 Z Z) Z (B0 ?_)))))));refine k1 (k2 (k2 ?_));refine A7 (A6 (A8 Z Z) Z (A6 (G7 Z) Z (A6 (A8 Z Z) Z (B4 Z Z Z Z (fun l=>by rw[l];exact A8 Z Z) ?_))));refine B4 Z Z Z Z (fun l=>by rw[l];exact A8 Z Z) ?_;refine B4 Z Z Z Z (fun l=>by rw[l];exact G4 Z) ?_;refine B4 Z Z Z Z (fun l=>by rw[l];exact K4 Z Z) ?_;refine A6 (B9 Z (fun h=>by first | rfl | (rw[h];rfl)) (fun h=>by first | rfl | (rw[h];rfl))) Z ?_;refine B0 ?_;refine k1 ?_;refine B8 rfl (fun d=>?_) (fun d=>?_);rotate_left
  ·exact absurd d (by simp)
  refine k2 ?_;refine A7 (A6 (F8 Z) Z (F4 (C2 TySz.out Z Z Z Z Z Z) (A6 (A9 Z Z) Z (B0 ?_))));refine k1 (G5 (I2 (R5 (I2 (I2 (R5 (I2 ?_)))))));exact C0 (rs:=[iR nP,F3 false]) (d8 rfl rfl rfl rfl rfl rfl rfl) (by rw[y];rfl)
 | some p =>
  obtain⟨n,e⟩:=p;rw[z]at y;rw[rB (by rw[List.drop_zero];exact z)]at v;dsimp only at y;refine k5 (k1 (k2 (k3 (k2 ?_))));refine A7 (A6 (A8 Z Z) Z (A6 (C1 Z (.pure _ _ _ _) Z (by omega) G) Z (A6 (D1 Z Z) Z (A6 (A9 Z Z) Z (A6 (A9 Z Z) Z (B0 ?_))))));refine k1 (k2 ?_);refine A7 (A6 (A8 Z Z) Z (C4 (v) Z Z Z ?_));rintro _ rfl;refine A6 (A8 Z Z) Z (A6 (B6 Z Z) Z (A6 (B6 Z Z) Z (A6 (B6 Z Z) Z (A6 (A9 Z Z) Z (A6 (A9 Z Z) Z (A6 (A9 Z Z) Z (B0 ?_)))))));refine k1 (k2 (k2 ?_));refine A7 (A6 (A8 Z Z) Z (A6 (G7 Z) Z (A6 (A8 Z Z) Z (B4 Z Z Z Z (fun l=>by rw[l];exact A8 Z Z) ?_))));refine B4 Z Z Z Z (fun l=>by rw[l];exact A8 Z Z) ?_;refine B4 Z Z Z Z (fun l=>by rw[l];exact G4 Z) ?_;refine B4 Z Z Z Z (fun l=>by rw[l];exact K4 Z Z) ?_;refine A6 (B9 Z (fun h=>by first | rfl | (rw[h];rfl)) (fun h=>by first | rfl | (rw[h];rfl))) Z ?_;refine B0 ?_;refine k1 ?_;refine B8 rfl (fun d=>?_) (fun d=>?_)
  ·have q:¬e=w.length:=fun h=>by
    revert d;simp[h]
   rw[A5 q]at y;refine k2 ?_;refine A7 (A6 (F8 Z) Z (F4 (C2 TySz.out Z Z Z Z Z Z) (A6 (A9 Z Z) Z (B0 ?_))));refine k1 (G5 (I2 (R5 (I2 (I2 (R5 (I2 ?_)))))));exact C0 (rs:=[iR nP,F3 false]) (d8 rfl rfl rfl rfl rfl rfl rfl) (by rw[y];rfl)
  have he:e=w.length:=by
   apply Classical.byContradiction;intro h;revert d;simp;omega
  rw[A4 he]at y;refine k5 (k1 ?_);refine A7 (A6 (A8 Z Z) Z (A6 (A8 Z Z) Z (A6 (jX Z Z Z (by omega) (by omega)) Z (A6 (AT Z Z af) Z (A6 (A8 Z Z) Z (A6 (B7 Z) Z (F4 (C2 TySz.out Z Z Z Z Z (M)) (B0 ?_))))))));refine k4 (k1 ?_);refine A7 (A6 (C9 Z Z (by omega)) Z (A6 (A8 Z Z) Z (B0 ?_)));refine k1 ?_;exact⟨(j+1,cj.put o n),⟨E,y⟩,by dsimp only;omega,(by dsimp only;rw[<-IW (n:Int) P];exact (Sees.of ⟨B5 rfl,B5 rfl,B5 rfl,B5 rfl,B5 rfl,B5 rfl,trivial⟩ ⟨rfl,rfl,rfl,trivial⟩))⟩
theorem QI(l:Str)(q:List Str)(D:q≠[])(K:∀w∈q,w.length<=1048576)(I:q.length<=1048576)(G:FnOk Tryz.prog 179 [F9 l] (fun rs=>rs=[T0 q,F3 true])) :
  FnOk Tryz.prog 107 [F9 l] (fun rs=>rs=[iR (nR q).1,E2 (nR q).2]):=by
 obtain⟨w,r,rfl⟩:=List.exists_cons_of_ne_nil D;obtain⟨R,F⟩:∃R,R=nR (w::r):=⟨_,rfl⟩
 have v:R=match iU w r formsL with
  | some c=>(c,0)
  | none=>(nP,320):=F
 rw[<-F];refine FnOk.intro Tryz.func107 (by decide) Z Z Z Z ?_;refine k2 ?_;refine A7 (D2 (G3 2 Z) Z (A6 (A9 Z Z) Z (B0 ?_)));refine k1 (k2 ?_);refine A7 (A6 (A8 Z Z) Z (C4 (G) Z Z Z ?_));rintro _ rfl;refine A6 (A8 Z Z) Z (A6 (B6 Z Z) Z (A6 (B6 Z Z) Z (A6 (A9 Z Z) Z (A6 (A9 Z Z) Z (B0 ?_)))));refine k1 (k2 (k2 ?_));refine A7 (A6 (A8 Z Z) Z (A6 (G7 Z) Z (A6 (A8 Z Z) Z (B4 Z Z Z Z (fun z=>by rw[z];exact A8 Z Z) ?_))));refine B4 Z Z Z Z (fun z=>by rw[z];exact F0 Z (.pure _ _ _ _)) ?_;refine B4 Z Z Z Z (fun z=>by rw[z];exact I3 Z Z) ?_;refine A6 (B9 Z (fun h=>by first | rfl | (rw[h];rfl)) (fun h=>by first | rfl | (rw[h];rfl))) Z ?_;refine B0 ?_;refine k1 ?_;refine B8 rfl (fun d=>?_) (fun d=>?_)
 ·exfalso;revert d;simp
  try omega
 refine k5 (k1 (k2 (k2 ?_)));refine A7 (C4 (AX) Z Z Z ?_);rintro _ rfl;refine A6 (F0 Z (.pure _ _ _ _)) Z (A6 (A8 Z Z) Z (B0 ?_));refine k1 (k3 ?_);refine E3 (X:=Nat) (fun i=>([(2,.s (.one (.ref 2 0))),(4,D7 Str 1 J9 (w::r)),(23,D7 CForm 6 xX formsL),(24,C7 10),(25,C7 i)],[(2,.box (pT nP))])) (fun i=>i<=10/\iU w r formsL=iU w r (formsL.drop i)) (fun i=>10-i) 0 ⟨Nat.zero_le _,rfl⟩ (Sees.of ⟨B5 rfl,B5 rfl,B5 rfl,B5 rfl,B5 rfl,trivial⟩ ⟨rfl,trivial⟩) ?_;rintro i ⟨H,j⟩;dsimp only at H j ⊢;refine k2 ?_;refine A7 (A6 (F2 Z Z) Z (B0 ?_));refine k1 (k2 ?_);refine B8 rfl (fun d=>?_) (fun d=>?_);rotate_left
 ·have C:i=10:=by have:=A1 d;omega
  subst C;have m:R=(nP,320):=by rw[v,j];rfl
  refine k6 (k2 ?_);refine A7 (A6 (F8 Z) Z (F4 (C2 TySz.out Z Z Z Z Z Z) (A6 (A9 Z Z) Z (B0 ?_))));refine k1 (G5 ?_);exact C0 (rs:=[iR nP,E2 320]) (d8 rfl rfl rfl rfl rfl rfl rfl) (by rw[m])
 have k:i<formsL.length:=by have h:=A0 d;show i<10;omega
 obtain⟨f,y⟩:∃f,f=formsL[i]:=⟨_,rfl⟩
 have J:formsL[i]?=some f:=by rw[y];exact A32 k
 rw[A41 k,<-y,iU]at j;refine k5 (k1 (k2 (k3 (k2 ?_))));refine A7 (A6 (C1 Z (.pure _ _ _ _) Z (by omega) J) Z (A6 (E5 Z Z) Z (D2 (G3 7 Z) Z (F4 (C2 TySz.out Z Z Z Z Z Z) (B0 ?_)))));refine k1 (k2 (k2 ?_));refine D8 (by kernel_rfl) (by kernel_rfl) (B3 (B1 Z) Z Z (B3 (B2 Z Z Z) Z Z (B3 (A8 Z Z) Z Z (B3 (C1 Z (.pure _ _ _ _) Z (by omega) (show (w::r)[(0:Int).toNat]?=some w from Z)) Z Z (B3 (D1 Z Z) Z Z (B3 (bF Z Z) Z Z (J8 ?_)))))));refine k1 ?_;refine B8 rfl (fun d=>?_) (fun d=>?_)
 ·have E:f.word≠w:=A0 d;rw[A4 E]at j;refine k6 (k7 (k8 Z (k1 ?_)));refine A7 (A6 (C9 Z Z (by omega)) Z (A6 (A8 Z Z) Z (B0 ?_)));refine k1 ?_;exact⟨i+1,⟨k,j⟩,by have:formsL.length=10:=rfl;omega,Sees.of ⟨B5 rfl,B5 rfl,B5 rfl,B5 rfl,B5 rfl,trivial⟩ ⟨rfl,trivial⟩⟩
 have B:¬f.word≠w:=A1 d;rw[A5 B]at j;have g:=UU f r (fun x L=>K x (by simp[L])) (by simp only[A34]at I;omega);cases A:dO f r with
 | some c =>
  rw[A]at g j;have m:R=(c,0):=by rw[v,j]
  refine k5 (k1 (k2 ?_));refine y8 [8,7] [[],[7],[8,7]] [(0,[7]),(1,[7]),(2,[7]),(3,[7]),(4,[7]),(5,[7]),(6,[7]),(6,[8,7])] (by kernel_rfl) (by kernel_rfl) (K7 Z (E7 Z Z Z) (K7 Z (A8 Z Z) (K7 Z (u9 Z (.pure _ _ _ _) Z (by ((try simp only[A34]);omega)) (by ((try simp only[A34]);omega))) ?_)));refine K7 Z (H4 (g) Z Z) (K7 Z (A8 Z Z) (K7 Z (B6 Z Z) (K7 Z (B6 Z Z) (oK 8 Z Z (gP (X6 TySz.out Z Z Z Z Z Z) (K7 Z (A9 Z Z) ?_))))));refine FU rfl ?_ ?_
  ·refine H7 Z Z (E7 Z Z Z) (H7 Z Z (A8 Z Z) (H7 Z Z (u9 Z (.pure _ _ _ _) Z (by ((try simp only[A34]);omega)) (by ((try simp only[A34]);omega))) ?_));refine H7 Z Z (H4 (g) Z Z) (H7 Z Z (A8 Z Z) (H7 Z Z (B6 Z Z) (H7 Z Z (B6 Z Z) (H7 Z Z (B6 Z Z) ?_))));exact FV
  refine k1 (k2 ?_);refine A7 (A6 (A8 Z Z) Z (B0 ?_));refine k1 ?_;refine B8 rfl (fun d=>?_) (fun d=>?_);rotate_left
  ·cases d
  refine k2 ?_;refine A7 (A6 (E7 Z Z Z) Z (F4 (C2 TySz.out Z Z Z Z Z Z) (A6 (A9 Z Z) Z (B0 ?_))));refine k1 (G5 (R5 (I2 (I2 (R5 (I2 ?_))))));exact C0 (rs:=[iR c,E2 0]) (d8 rfl rfl rfl rfl rfl rfl rfl) (by rw[m])
 | none =>
  rw[A]at g j;refine k5 (k1 (k2 ?_));refine y8 [8,7] [[],[7],[8,7]] [(0,[7]),(1,[7]),(2,[7]),(3,[7]),(4,[7]),(5,[7]),(6,[7]),(6,[8,7])] (by kernel_rfl) (by kernel_rfl) (K7 Z (E7 Z Z Z) (K7 Z (A8 Z Z) (K7 Z (u9 Z (.pure _ _ _ _) Z (by ((try simp only[A34]);omega)) (by ((try simp only[A34]);omega))) ?_)));refine K7 Z (H4 (g) Z Z) (K7 Z (A8 Z Z) (K7 Z (B6 Z Z) (K7 Z (B6 Z Z) (oK 8 Z Z (gP (X6 TySz.out Z Z Z Z Z Z) (K7 Z (A9 Z Z) ?_))))));refine FU rfl ?_ ?_
  ·refine H7 Z Z (E7 Z Z Z) (H7 Z Z (A8 Z Z) (H7 Z Z (u9 Z (.pure _ _ _ _) Z (by ((try simp only[A34]);omega)) (by ((try simp only[A34]);omega))) ?_));refine H7 Z Z (H4 (g) Z Z) (H7 Z Z (A8 Z Z) (H7 Z Z (B6 Z Z) (H7 Z Z (B6 Z Z) (H7 Z Z (B6 Z Z) ?_))));exact FV
  refine k1 (k2 ?_);refine A7 (A6 (A8 Z Z) Z (B0 ?_));refine k1 ?_;refine B8 rfl (fun d=>?_) (fun d=>?_)
  ·cases d
  refine k5 (k4 (k1 ?_));refine A7 (A6 (C9 Z Z (by omega)) Z (A6 (A8 Z Z) Z (B0 ?_)));refine k1 ?_;exact⟨i+1,⟨k,j⟩,by have:formsL.length=10:=rfl;omega,Sees.of ⟨B5 rfl,B5 rfl,B5 rfl,B5 rfl,B5 rfl,trivial⟩ ⟨rfl,trivial⟩⟩
theorem wD(a:List Str)(c:a≠[])(d:∀w∈a,w≠[]/\w.all L8=true/\w.length<=1048576)(hs:(R3 a).length<=1048576) :
  FnOk Tryz.prog 107 [F9 (R3 a)] (fun f=>f=[iR (nR a).1,E2 (nR a).2]) :=
 QI (R3 a) a c (fun w b=>(d w b).2.2) (Nat.le_trans (yG a fun w b=>(d w b).1) hs) (LP a c (fun w b=>⟨(d w b).1,(d w b).2.1⟩) hs)
theorem QJ(s:Str)(hs:s.length<=536870912):FnOk Tryz.prog 48 [F9 s] (fun rs=>rs=[T0 (yO s).1,E2 (yO s).2]):=by
 obtain⟨R,F⟩:∃R,R=yO s:=⟨_,rfl⟩
 have b:=F;unfold yO at b;rw[<-F];refine FnOk.intro Tryz.func48 (by decide) Z Z Z Z ?_;refine k2 ?_;refine A7 (A6 (N2 _ 1 J9) Z (A6 (A9 Z Z) Z (B0 ?_)));refine k1 (k2 (k2 ?_));refine A7 (A6 (A8 Z Z) Z (A6 (G4 Z) Z (A6 (P8 Z Z) Z (B0 ?_))));refine k1 ?_;refine B8 rfl (fun d=>?_) (fun d=>?_)
 ·have q:65536<s.length:=by have:=A0 d;omega
  rw[A4 q]at b;refine k2 ?_;refine A7 (A6 (N2 _ 1 J9) Z (A6 (A9 Z Z) Z (B0 ?_)));refine k1 (G5 (I2 ?_));exact C0 (rs:=[T0 [],E2 1]) (R0 rfl rfl rfl rfl rfl) (by rw[b])
 have q:¬65536<s.length:=by have:=A1 d;omega
 rw[A5 q]at b;obtain⟨P,E⟩:∃P,P=Q1 s:=⟨_,rfl⟩
 have B:∀t∈P.1,t.length<=1048576:=by
  intro t p;rw[E]at p;unfold Q1 at p;split at p
  ·cases p
  ·have x:=(Y3 s).1;have L:t.length<=(E9 s).flatten.length:=(List.sublist_flatten_of_mem p).length_le;omega
 have G:=vX s hs;rw[<-E]at G b;refine k5 (k1 (k2 ?_));refine A7 (A6 (A8 Z Z) Z (AQ (G) Z Z Z Z ?_));rintro _ _ ⟨rfl,rfl⟩;refine⟨rfl,?_⟩;refine A6 (A8 Z Z) Z (A6 (B6 Z Z) Z (A6 (B6 Z Z) Z (A6 (A9 Z Z) Z (A6 (A9 Z Z) Z (B0 ?_)))));refine k1 (k2 (k2 ?_));refine A7 (A6 (A8 Z Z) Z (A6 (K4 Z Z) Z (A6 (A8 Z Z) Z (B4 Z Z Z Z (fun z=>by rw[z];exact A8 Z Z) ?_))));refine B4 Z Z Z Z (fun z=>by rw[z];exact r7 Z Z) ?_;refine B4 Z Z Z Z (fun z=>by rw[z];exact P8 Z Z) ?_;refine A6 (B9 Z (fun h=>by first | rfl | (rw[h];rfl)) (fun h=>by first | rfl | (rw[h];rfl))) Z ?_;refine B0 ?_;refine k1 ?_;refine B8 rfl (fun d=>?_) (fun d=>?_)
 ·have x:P.2≠0\/100<P.1.length:=by
   rw[or_pick]at d;have:=A0 d;omega
  rw[A4 x]at b;refine k2 ?_;refine A7 (A6 (N2 _ 1 J9) Z (A6 (A9 Z Z) Z (B0 ?_)));refine k1 (G5 (I2 ?_));exact C0 (rs:=[T0 [],E2 1]) (R0 rfl rfl rfl rfl rfl) (by rw[b])
 have x:¬(P.2≠0\/100<P.1.length):=by
  rw[or_pick]at d;have:=A1 d;omega
 rw[A5 x]at b;have H:P.1.length<=100:=by omega
 refine k5 (k1 (k2 (k2 ?_)));refine A7 (A6 (A8 Z Z) Z (A6 (r7 Z Z) Z (A6 (A8 Z Z) Z (B0 ?_))));refine k1 (k3 ?_);refine E3 (X:=Nat) (fun i=>([(4,.s (.one (.mut 9))),(23,.s (.one (.mut 9))),(24,C7 P.1.length),(25,C7 i)],[(9,kW (eX P.1 i))])) (fun i=>i<=P.1.length) (fun i=>P.1.length-i) 0 (Nat.zero_le _) (by dsimp only;rw[NQ];exact (Sees.of ⟨B5 rfl,B5 rfl,B5 rfl,B5 rfl,trivial⟩ ⟨rfl,trivial⟩)) ?_;intro i I;dsimp only at I ⊢;have y:=TA P.1 i;refine k2 ?_;refine A7 (A6 (F2 Z Z) Z (B0 ?_));refine k1 (k2 ?_);refine B8 rfl (fun d=>?_) (fun d=>?_)
 ·have v:i<P.1.length:=by have q:=A0 d;(try dsimp only at q);omega
  obtain⟨t,w⟩:∃t,t=P.1[i]:=⟨_,rfl⟩
  have K:(eX P.1 i)[i]?=some t:=by rw[w];exact TB v
  have A:(eX P.1 i)[((i:Nat):Int).toNat]?=some t:=by rw[A36];exact K
  have r:=TD v;rw[<-w]at r;have J:t.length<=1048576:=B t (by rw[w];exact A37 v);have C:FnOk Tryz.prog 106 [F9 t,F9 [10]] (fun rs=>rs=[F9 (kQ t)]):=fB t [10] (by omega);refine k5 (k1 (k2 (k3 (k2 ?_))));refine A7 (A6 (A8 Z Z) Z (A6 (J4 Z Z Z (by omega) (by (rw[y];omega))) Z ?_));refine A6 (o7 Z Z A Z) Z (A6 (A9 Z Z) Z (A6 (A9 Z Z) Z (B0 ?_)));refine k1 ?_;refine A7 (A6 (A8 Z Z) Z (A6 (A8 Z Z) Z (A6 (A8 Z Z) Z (C4 (C) Z Z Z ?_))));rintro _ rfl;refine A6 (J4 Z Z Z (by omega) (by (rw[y];omega))) Z ?_;refine F4 (cU ((kQ t)) TySz.out Z Z A Z Z Z Z (fun _ _ _ h=>bP h) (by intro j q x;rcases j with _ | _ | _ | _ | _ | _ | _ | j<;>first | rfl | omega)) ?_;refine B0 ?_;refine k4 (k1 ?_);refine A7 (A6 (C9 Z Z (by omega)) Z (A6 (A8 Z Z) Z (B0 ?_)));refine k1 ?_;exact⟨i+1,by omega,by omega,(by rw[<-r];exact (Sees.of ⟨B5 rfl,B5 rfl,B5 rfl,B5 rfl,trivial⟩ ⟨rfl,trivial⟩))⟩
 have D:i=P.1.length:=by have q:=A1 d;(try dsimp only at q);omega
 rw[D,TE];refine k6 (k2 ?_);refine A7 (A6 (A8 Z Z) Z (A6 (A9 Z Z) Z (A6 (A9 Z Z) Z (B0 ?_))));refine k1 (G8 (Sees.freezeG (k:=9) (α:=Str) (ec:=1) (c:=J9) (xs:=P.1.map kQ) (e:=9) rfl rfl) ?_);refine G5 ?_;exact C0 (rs:=[T0 (P.1.map kQ),E2 0]) (R0 rfl rfl rfl rfl rfl) (by rw[b])
theorem LQ(ns:List Int)(h:ns.length<=8):FnOk Tryz.prog 61 [O1 ns] (fun rs=>rs=[F9 (iX ns++[10])]):=by
 have g:eS ns 0=[99,111,109,109,105,116]:=by simp[eS,uG]
 refine FnOk.intro Tryz.func61 (by decide) Z Z Z Z ?_;refine k2 ?_;refine A7 (A6 (A9 Z Z) Z (B0 ?_));refine k1 (k2 ?_);refine A7 (A6 (A9 Z Z) Z (B0 ?_));refine k1 (k2 (k2 ?_));refine A7 (A6 (A8 Z Z) Z (A6 (F0 Z (.pure _ _ _ _)) Z (A6 (A8 Z Z) Z (B0 ?_))));refine k1 (k3 ?_);refine E3 (X:=Nat) (fun i=>([(3,P3 (eS ns i)),(6,D7 Int 1 H1 ns),(7,C7 ns.length),(8,C7 i)],[])) (fun i=>i<=ns.length) (fun i=>ns.length-i) 0 (Nat.zero_le _) (by dsimp only;rw[g];exact (Sees.of ⟨B5 rfl,B5 rfl,B5 rfl,B5 rfl,trivial⟩ trivial)) ?_;intro i k;dsimp only at k ⊢;have l:=lH ns i;refine k2 ?_;refine A7 (A6 (F2 Z Z) Z (B0 ?_));refine k1 (k2 ?_);refine B8 rfl (fun d=>?_) (fun d=>?_)
 ·have c:i<ns.length:=by have a:=A0 d;(try dsimp only at a);omega
  obtain⟨n,m⟩:∃n,n=ns[i]:=⟨_,rfl⟩
  have f:ns[i]?=some n:=by rw[m];exact A32 c
  have j:=Z4 n;have hs:=yH f;refine k5 (k1 (k2 (k3 (k2 ?_))));refine A7 (A6 (C1 Z (.pure _ _ _ _) Z (by omega) f) Z (A6 (D1 Z Z) Z (A6 (A9 Z Z) Z (B0 ?_))));refine k1 ?_;refine A7 (A6 (A8 Z Z) Z (A6 (A8 Z Z) Z (C4 (t7 n) Z Z Z ?_)));rintro _ rfl;refine A6 (K8 Z Z (by (simp;omega))) Z (A6 (K8 Z Z (by (simp;omega))) Z (A6 (A9 Z Z) Z (B0 ?_)));rw[<-hs];refine k4 (k1 ?_);refine A7 (A6 (C9 Z Z (by omega)) Z (A6 (A8 Z Z) Z (B0 ?_)));refine k1 ?_;exact⟨i+1,by omega,by omega,Sees.of ⟨B5 rfl,B5 rfl,B5 rfl,B5 rfl,trivial⟩ trivial⟩
 have b:i=ns.length:=by have a:=A1 d;(try dsimp only at a);omega
 rw[b]at l ⊢;refine k6 (k2 ?_);refine A7 (A6 (A8 Z Z) Z (A6 (K8 Z Z (by (simp;omega))) Z (A6 (A9 Z Z) Z (B0 ?_))));refine k1 (G5 ?_);exact C0 (rs:=[F9 (eS ns ns.length++[10])]) (H6 rfl rfl rfl) rfl
theorem jZ(l:List Int)(e:Int)(h:l.length<=1000):FnOk Tryz.prog 22 [O1 l,E2 e] (fun rs=>rs=[F9 (WC (l.map fun c=>[c])),E2 e]):=by
 obtain⟨L,a⟩:∃L:List (List Int),L=l.map fun c=>[c]:=⟨_,rfl⟩
 have v:L.length=l.length:=by rw[a,A67]
 have x:∀ns∈L,ns.length<=1:=fun ns b=>by
  rw[a]at b;obtain⟨c,_,rfl⟩:=A65.1 b;exact Nat.le_refl _
 rw[<-a];refine FnOk.intro Tryz.func22 (by decide) Z Z Z Z ?_;refine k2 ?_;refine A7 (A6 (A9 Z Z) Z (A6 (A9 Z Z) Z (B0 ?_)));refine k1 (k2 ?_);refine A7 (A6 (A9 Z Z) Z (B0 ?_));refine k1 (k2 (k2 ?_));refine A7 (A6 (A8 Z Z) Z (A6 (F0 Z (.pure _ _ _ _)) Z (A6 (A8 Z Z) Z (B0 ?_))));refine k1 (k3 ?_);refine E3 (X:=Nat) (fun i=>([(1,C7 e),(6,P3 (eT L i)),(9,D7 Int 1 H1 l),(10,C7 l.length),(11,C7 i)],[])) (fun i=>i<=l.length) (fun i=>l.length-i) 0 (Nat.zero_le _) (by dsimp only;rw[SS];exact (Sees.of ⟨B5 rfl,B5 rfl,B5 rfl,B5 rfl,B5 rfl,trivial⟩ trivial)) ?_;intro i w;dsimp only at w ⊢;have y:=CA x i;refine k2 ?_;refine A7 (A6 (F2 Z Z) Z (B0 ?_));refine k1 (k2 ?_);refine B8 rfl (fun m=>?_) (fun m=>?_)
 ·have k:i<l.length:=by have d:=A0 m;(try dsimp only at d);omega
  obtain⟨n,b⟩:∃n,n=l[i]:=⟨_,rfl⟩
  have s:l[i]?=some n:=by rw[b];exact A32 k
  have o:L[i]?=some [n]:=by rw[a,A69,s];rfl
  have hs:=yI o;have f:=lH [n] 1;have q:(iX [n]).length<=17:=f;refine k5 (k1 (k2 (k3 (k2 ?_))));refine A7 (A6 (C1 Z (.pure _ _ _ _) Z (by omega) s) Z (A6 (D1 Z Z) Z (A6 (A9 Z Z) Z (B0 ?_))));refine k1 ?_;refine A7 (A6 (A8 Z Z) Z (A6 (A8 Z Z) Z (A6 (E0 (c:=H1) (ys:=[n]) (D9 Z Z Z Z H2) Z Z Z) Z (C4 (LQ [n] (by simp)) Z Z Z ?_))));rintro _ rfl;refine A6 (K8 Z Z (by (simp;omega))) Z (A6 (A9 Z Z) Z (B0 ?_));rw[<-hs];refine k4 (k1 ?_);refine A7 (A6 (C9 Z Z (by omega)) Z (A6 (A8 Z Z) Z (B0 ?_)));refine k1 ?_;exact⟨i+1,by omega,by omega,Sees.of ⟨B5 rfl,B5 rfl,B5 rfl,B5 rfl,B5 rfl,trivial⟩ trivial⟩
 have j:i=L.length:=by have d:=A1 m;(try dsimp only at d);omega
 rw[j];refine k6 (k2 ?_);refine A7 (A6 (A8 Z Z) Z (A6 (A8 Z Z) Z (A6 (A9 Z Z) Z (A6 (A9 Z Z) Z (B0 ?_)))));refine k1 (G5 ?_);exact C0 (rs:=[F9 (eT L L.length),E2 e]) (R0 rfl rfl rfl rfl rfl) rfl
theorem HI(g:Graph)(c:Nat)(b:Str)(h:FewT g)(m:c<g.length):FnOk Tryz.prog 70 [I1 g,E2 c,F9 b] (fun rs=>rs=[F9 (cT (N9 g c) b)]):=by
 obtain⟨f,j⟩:∃f,f=g[c]:=⟨_,rfl⟩
 have d:g[((c:Nat):Int).toNat]?=some f:=by rw[j];simp[m]
 have k:N9 g c=f.Files:=qZ (by rw[A36]at d;exact d);have i:(N9 g c).length<=1073741824:=(h.files c).len;rw[k]at i ⊢;refine FnOk.intro Tryz.func70 (by decide) Z Z Z Z ?_;refine k2 ?_;refine A7 (A6 (A9 Z Z) Z (B0 ?_));refine k1 (k2 ?_);refine A7 (A6 (A8 Z Z) Z (A6 (A8 Z Z) Z (A6 (C1 Z (.pure _ _ _ _) Z (by omega) d) Z (A6 (L7 Z) Z (A6 (D1 Z Z) Z (A6 (A8 Z Z) Z (C4 (UP f.Files b i) Z Z Z ?_)))))));rintro _ rfl;refine A6 (A8 Z Z) Z (A6 (B6 Z Z) Z (A6 (B6 Z Z) Z (A6 (A9 Z Z) Z (A6 (A9 Z Z) Z (B0 ?_)))));refine k1 (k2 ?_);refine A7 (A6 (A8 Z Z) Z (A6 (A9 Z Z) Z (B0 ?_)));refine k1 (G5 ?_);exact C0 (rs:=[F9 (cT f.Files b)]) (H6 rfl rfl rfl) rfl
set_option maxHeartbeats 2000000
def l4(l:List Int):Str:=WC (l.map fun c=>[c])
structure DoArm (g:Graph) (c:Cmd) (out:Str) (e:Int):Prop where
 log:c.Kind=1->∃l:List Int,l.length<=1000/\out=l4 l/\FnOk Tryz.prog 23 [I1 g,O1 [c.A]] (fun rs=>rs=[O1 l,E2 e])
 diff:c.Kind=3->FnOk Tryz.prog 25 [I1 g,iR c] (fun rs=>rs=[F9 out,E2 e])
 merge:c.Kind=4->FnOk Tryz.prog 26 [I1 g,iR c] (fun rs=>rs=[F9 out,E2 e])
 lit:c.Kind=5->∃l:List Int,l.length<=1000/\out=l4 l/\FnOk Tryz.prog 27 [I1 g,E2 c.A,F9 c.Text] (fun rs=>rs=[O1 l,E2 e])
 lines:c.Kind=7->FnOk Tryz.prog 29 [I1 g,iR c] (fun rs=>rs=[F9 out,E2 e])
 blame:c.Kind=8->FnOk Tryz.prog 30 [I1 g,iR c] (fun rs=>rs=[F9 out,E2 e])
 bases:c.Kind=9->∃l:List Int,l.length<=1000/\out=l4 l/\FnOk Tryz.prog 31 [I1 g,E2 c.A,E2 c.B] (fun rs=>rs=[O1 l,E2 e])
theorem UV(g:Graph)(c:Cmd)(t:Str)(e:Int)(h:FewT g)(H:X4 g=0)(z:c.Text.length<=1048576)(I:(nQ c).2=0)(C:dT g c.A)(G:c.Kind=3\/c.Kind=9->dT g c.B)(R:1<=c.Kind/\c.Kind<=9/\c.Kind≠2/\c.Kind≠6)(p:DoArm g c t e) :
  FnOk Tryz.prog 8 [I1 g,iR c] (fun rs=>rs=[F9 t,E2 e]):=by
 have D:=DM g h;rw[H]at D;have E:=QC c z;rw[I]at E;refine FnOk.intro Tryz.func8 (by decide) Z Z Z Z ?_;refine k2 ?_;refine A7 (D2 (Y7 3 Z Z Z) Z (A6 (A9 Z Z) Z (A6 (A9 Z Z) Z (B0 ?_))));refine k1 (k2 (k2 ?_));refine A7 (A6 (A8 Z Z) Z (C4 (D) Z Z Z ?_));rintro _ rfl;refine A6 (A9 Z Z) Z (B0 ?_);refine k1 (k2 ?_);refine A7 (A6 (A8 Z Z) Z (A6 (K4 Z Z) Z (B0 ?_)));refine k1 ?_;refine B8 rfl (fun i=>?_) (fun i=>?_)
 ·exact absurd rfl (A0 i)
 refine k5 (k1 (k2 (k2 ?_)));refine A7 (A6 (E7 Z Z Z) Z (C4 (E) Z Z Z ?_));rintro _ rfl;refine A6 (A8 Z Z) Z (A6 (B6 Z Z) Z (A6 (B6 Z Z) Z (A6 (A9 Z Z) Z (A6 (A9 Z Z) Z (B0 ?_)))));refine k1 (k2 ?_);refine A7 (A6 (A8 Z Z) Z (A6 (K4 Z Z) Z (B0 ?_)));refine k1 ?_;refine B8 rfl (fun i=>?_) (fun i=>?_)
 ·exact absurd rfl (A0 i)
 refine k5 (k1 (k2 ?_));refine A7 (A6 (B1 Z) Z (A6 (B2 Z Z Z) Z (A6 (I3 Z Z) Z (A6 (A8 Z Z) Z (B4 Z Z Z Z (fun j=>by rw[j];exact B1 Z) ?_)))));refine B4 Z Z Z Z (fun j=>by rw[j];exact B2 Z Z Z) ?_;refine B4 Z Z Z Z (fun j=>by rw[j];exact I3 Z Z) ?_;refine A6 (B9 Z (fun h=>by first | rfl | (rw[h];rfl)) (fun h=>by first | rfl | (rw[h];rfl))) Z ?_;refine A6 (A9 Z Z) Z (B0 ?_);refine V1 [(0,D7 Commit 3 J3 g),(3,.s (.one (.ref 3 0))),(9,P4 (decide (c.Kind=3\/c.Kind=9)))] [(3,.box (pT c))] (by rw[<-or_pick];exact (Sees.of ⟨B5 rfl,B5 rfl,B5 rfl,trivial⟩ ⟨rfl,trivial⟩)) ?_;refine k2 (k2 ?_);refine A7 (A6 (A8 Z Z) Z (A6 (B1 Z) Z (A6 (B2 Z Z Z) Z (C4 (LB g c.A) Z Z Z ?_))));rintro _ rfl;refine A6 (G7 Z) Z (A6 (A8 Z Z) Z (B4 Z Z Z Z (fun j=>by rw[j];exact A8 Z Z) ?_));refine B4 Z Z Z Z (fun j=>by rw[j];exact A8 Z Z) ?_;refine M5 Z Z Z (.gd (.val _)) Z (fun j=>by obtain⟨k,m⟩:=T9 j;(try rw[k]);(try rw[m]);exact A8 Z Z) ?_;refine M5 Z Z Z (.gd (.val _)) Z (fun j=>by obtain⟨k,m⟩:=T9 j;(try rw[k]);(try rw[m]);exact B1 Z) ?_;refine M5 Z Z Z (.gd (.val _)) Z (fun j=>by obtain⟨k,m⟩:=T9 j;(try rw[k]);(try rw[m]);exact B2 Z Z Z) ?_;refine M5 Z Z Z (.gd (.val _)) Z (fun j=>by have J:=j;(try simp at J);obtain⟨k,m⟩:=T9 j;(try rw[k]);(try rw[m]);exact H4 (LB g c.B) Z Z) ?_;refine M5 Z Z Z (.gd (.val _)) Z (fun j=>by obtain⟨k,m⟩:=T9 j;(try rw[k]);(try rw[m]);exact G7 Z) ?_;refine B4 Z Z Z Z (fun j=>by rw[j];exact B9 Z (fun h=>by first | rfl | (rw[h];rfl)) (fun h=>by first | rfl | (rw[h];rfl))) ?_;refine A6 (B9 Z (fun h=>by first | rfl | (rw[h];rfl)) (fun h=>by first | rfl | (rw[h];rfl))) Z ?_;refine B0 ?_;refine k1 ?_;refine B8 rfl (fun i=>?_) (fun i=>?_)
 ·exfalso;revert i;by_cases y:c.Kind=3\/c.Kind=9
  ·simp[C,G y,y]
  ·simp[C,y]
 refine V1 [(0,D7 Commit 3 J3 g),(3,.s (.one (.ref 3 0)))] [(3,.box (pT c))] (Sees.of ⟨B5 rfl,B5 rfl,trivial⟩ ⟨rfl,trivial⟩) ?_;refine k5 (k1 (k2 (k2 ?_)));refine A7 (A6 (B1 Z) Z (A6 (B2 Z Z Z) Z (B0 ?_)));refine k1 (k3 (k2 ?_));refine A7 (A6 (I3 Z Z) Z (A6 (A9 Z Z) Z (B0 ?_)));refine k1 ?_;refine B8 rfl (fun i=>?_) (fun i=>?_)
 ·obtain⟨l,u,w,q⟩:=p.log (A0 i);rw[w];refine k2 ?_;refine A7 (A6 (A8 Z Z) Z (A6 (B1 Z) Z (A6 (B2 Z Z Z) Z (A6 (E0 (c:=H1) (ys:=[c.A]) (D9 Z Z Z Z H2) Z Z Z) Z (C4 (q) Z Z Z ?_)))));rintro _ rfl;refine A6 (B6 Z Z) Z (A6 (B6 Z Z) Z (C4 (jZ l e u) Z Z Z ?_));rintro _ rfl;refine A6 (B6 Z Z) Z (A6 (B6 Z Z) Z (A6 (A9 Z Z) Z (A6 (A9 Z Z) Z (B0 ?_))));refine k1 (G5 (R5 (I2 ?_)));exact C0 (rs:=[F9 (l4 l),E2 e]) (R0 rfl rfl rfl rfl rfl) rfl
 refine k2 ?_;refine A7 (A6 (I3 Z Z) Z (A6 (A9 Z Z) Z (B0 ?_)));refine k1 ?_;refine B8 rfl (fun i=>?_) (fun i=>?_)
 ·have:=A0 i;omega
 refine k2 ?_;refine A7 (A6 (I3 Z Z) Z (A6 (A9 Z Z) Z (B0 ?_)));refine k1 ?_;refine B8 rfl (fun i=>?_) (fun i=>?_)
 ·have q:=p.diff (A0 i);refine k2 ?_;refine A7 (A6 (A8 Z Z) Z (A6 (E7 Z Z Z) Z (C4 (q) Z Z Z ?_)));rintro _ rfl;refine A6 (B6 Z Z) Z (A6 (B6 Z Z) Z (A6 (A9 Z Z) Z (A6 (A9 Z Z) Z (B0 ?_))));refine k1 (G5 (R5 (I2 ?_)));exact C0 (rs:=[F9 t,E2 e]) (R0 rfl rfl rfl rfl rfl) rfl
 refine k2 ?_;refine A7 (A6 (I3 Z Z) Z (A6 (A9 Z Z) Z (B0 ?_)));refine k1 ?_;refine B8 rfl (fun i=>?_) (fun i=>?_)
 ·have q:=p.merge (A0 i);refine k2 ?_;refine A7 (A6 (A8 Z Z) Z (A6 (E7 Z Z Z) Z (C4 (q) Z Z Z ?_)));rintro _ rfl;refine A6 (B6 Z Z) Z (A6 (B6 Z Z) Z (A6 (A9 Z Z) Z (A6 (A9 Z Z) Z (B0 ?_))));refine k1 (G5 (R5 (I2 ?_)));exact C0 (rs:=[F9 t,E2 e]) (R0 rfl rfl rfl rfl rfl) rfl
 refine k2 ?_;refine A7 (A6 (I3 Z Z) Z (A6 (A9 Z Z) Z (B0 ?_)));refine k1 ?_;refine B8 rfl (fun i=>?_) (fun i=>?_)
 ·obtain⟨l,u,w,q⟩:=p.lit (A0 i);rw[w];refine k2 ?_;refine A7 (A6 (A8 Z Z) Z (A6 (B1 Z) Z (A6 (B2 Z Z Z) Z (A6 (B1 Z) Z (A6 (B2 Z Z Z) Z (C4 (q) Z Z Z ?_))))));rintro _ rfl;refine A6 (B6 Z Z) Z (A6 (B6 Z Z) Z (C4 (jZ l e u) Z Z Z ?_));rintro _ rfl;refine A6 (B6 Z Z) Z (A6 (B6 Z Z) Z (A6 (A9 Z Z) Z (A6 (A9 Z Z) Z (B0 ?_))));refine k1 (G5 (R5 (I2 ?_)));exact C0 (rs:=[F9 (l4 l),E2 e]) (R0 rfl rfl rfl rfl rfl) rfl
 refine k2 ?_;refine A7 (A6 (I3 Z Z) Z (A6 (A9 Z Z) Z (B0 ?_)));refine k1 ?_;refine B8 rfl (fun i=>?_) (fun i=>?_)
 ·have:=A0 i;omega
 refine k2 ?_;refine A7 (A6 (I3 Z Z) Z (A6 (A9 Z Z) Z (B0 ?_)));refine k1 ?_;refine B8 rfl (fun i=>?_) (fun i=>?_)
 ·have q:=p.lines (A0 i);refine k2 ?_;refine A7 (A6 (A8 Z Z) Z (A6 (E7 Z Z Z) Z (C4 (q) Z Z Z ?_)));rintro _ rfl;refine A6 (B6 Z Z) Z (A6 (B6 Z Z) Z (A6 (A9 Z Z) Z (A6 (A9 Z Z) Z (B0 ?_))));refine k1 (G5 (R5 (I2 ?_)));exact C0 (rs:=[F9 t,E2 e]) (R0 rfl rfl rfl rfl rfl) rfl
 refine k2 ?_;refine A7 (A6 (I3 Z Z) Z (A6 (A9 Z Z) Z (B0 ?_)));refine k1 ?_;refine B8 rfl (fun i=>?_) (fun i=>?_)
 ·have q:=p.blame (A0 i);refine k2 ?_;refine A7 (A6 (A8 Z Z) Z (A6 (E7 Z Z Z) Z (C4 (q) Z Z Z ?_)));rintro _ rfl;refine A6 (B6 Z Z) Z (A6 (B6 Z Z) Z (A6 (A9 Z Z) Z (A6 (A9 Z Z) Z (B0 ?_))));refine k1 (G5 (R5 (I2 ?_)));exact C0 (rs:=[F9 t,E2 e]) (R0 rfl rfl rfl rfl rfl) rfl
 rename_i K L M N O P Q;have F:c.Kind=9:=by
  have:=A1 i;have:=A1 K;have:=A1 L;have:=A1 M;have:=A1 N;have:=A1 O;have:=A1 P;have:=A1 Q;omega
 obtain⟨l,u,w,q⟩:=p.bases F;rw[w];refine k5 (k2 ?_);refine A7 (A6 (A8 Z Z) Z (A6 (B1 Z) Z (A6 (B2 Z Z Z) Z (A6 (B1 Z) Z (A6 (B2 Z Z Z) Z (C4 (q) Z Z Z ?_))))));rintro _ rfl;refine A6 (B6 Z Z) Z (A6 (B6 Z Z) Z (C4 (jZ l e u) Z Z Z ?_));rintro _ rfl;refine A6 (B6 Z Z) Z (A6 (B6 Z Z) Z (A6 (A9 Z Z) Z (A6 (A9 Z Z) Z (B0 ?_))));refine k1 (G5 ?_);exact C0 (rs:=[F9 (l4 l),E2 e]) (R0 rfl rfl rfl rfl rfl) rfl
theorem sJ(g:Graph)(a:Str)(c:Cmd)(j:Int)(i:Str)(q:Int)(y:a.length<=65536)(x:i.length<=16777216)(v:FnOk Tryz.prog 107 [F9 a] (fun rs=>rs=[iR c,E2 j]))
  (t:j=0->FnOk Tryz.prog 8 [I1 g,iR c] (fun rs=>rs=[F9 i,E2 q])) :
  FnOk Tryz.prog 49 [I1 g,F9 a] (fun rs=>rs=[F9 (fM a i (if j=0 then q else j))]):=by
 obtain⟨o,d⟩:∃o:Str,o=if j=0 then i else []:=⟨_,rfl⟩
 obtain⟨f,b⟩:∃f:Int,f=if j=0 then q else j:=⟨_,rfl⟩
 obtain⟨n,e⟩:∃n:Str,n=if f≠0 then pW f else o:=⟨_,rfl⟩
 have w:=Z4 f;have p:o.length<=16777216:=by
  rw[d];split
  ·exact x
  ·simp
 have r:n.length<=16777216:=by
  rw[e];split
  ·unfold pW;simp only[A35,A34,A38];omega
  ·exact p
 have m:fM a i f=[62,32]++a++[10]++n:=by
  unfold fM;rw[e];by_cases h:f≠0
  ·rw[A4 h,A4 h]
  ·rw[A5 h,A5 h];have:j=0:=by
    apply Classical.byContradiction;intro s;rw[b,A5 s]at h;exact h s
   rw[d,A4 this]
 rw[<-b,m];refine FnOk.intro Tryz.func49 (by decide) Z Z Z Z ?_;refine k2 ?_;refine A7 (A6 (A9 Z Z) Z (B0 ?_));refine k1 (k2 ?_);refine A7 (A6 (A8 Z Z) Z (C4 (v) Z Z Z ?_));rintro _ rfl;refine A6 (A8 Z Z) Z (A6 (B6 Z Z) Z (A6 (B6 Z Z) Z (D2 (G3 5 Z) Z (F4 (C2 TySz.out Z Z Z Z Z Z) (A6 (A9 Z Z) Z (B0 ?_))))));refine k1 (k2 ?_);refine A7 (A6 (A9 Z Z) Z (B0 ?_));refine k1 (k2 (k2 ?_));refine A7 (A6 (A8 Z Z) Z (A6 (I3 Z Z) Z (B0 ?_)));refine k1 ?_;refine oP [(1,P3 a),(7,P3 o),(6,C7 f)] [] ?_ ?_
 ·skip;refine B8 rfl (fun l=>?_) (fun l=>?_)
  ·have k:j=0:=A0 l;have u:=t k;rw[A4 k]at d b;subst d b;skip;refine A7 (A6 (A8 Z Z) Z (A6 (E7 Z Z Z) Z (C4 (u) Z Z Z ?_)));rintro _ rfl;refine A6 (A8 Z Z) Z (A6 (B6 Z Z) Z (A6 (B6 Z Z) Z (A6 (A9 Z Z) Z (A6 (A9 Z Z) Z (B0 ?_)))));refine k1 ?_;exact Sees.of ⟨B5 rfl,B5 rfl,B5 rfl,trivial⟩ trivial
  ·have k:¬j=0:=A1 l;rw[A5 k]at d b;subst d b;refine k5 (k1 ?_);exact Sees.of ⟨B5 rfl,B5 rfl,B5 rfl,trivial⟩ trivial
 refine k2 (k2 ?_);refine A7 (A6 (A8 Z Z) Z (A6 (K4 Z Z) Z (B0 ?_)));refine k1 ?_;refine oP [(1,P3 a),(7,P3 n)] [] ?_ ?_
 ·skip;refine B8 rfl (fun l=>?_) (fun l=>?_)
  ·have k:f≠0:=A0 l;rw[A4 k]at e;rw[e];skip;refine A7 (A6 (A8 Z Z) Z (C4 (t7 f) Z Z Z ?_));rintro _ rfl;refine A6 (K8 Z Z (by (simp;omega))) Z (A6 (K8 Z Z (by (simp;omega))) Z (A6 (A9 Z Z) Z (B0 ?_)));refine k1 ?_;exact Sees.of ⟨B5 rfl,B5 rfl,trivial⟩ trivial
  ·have k:¬f≠0:=A1 l;rw[A5 k]at e;rw[e];refine k5 (k1 ?_);exact Sees.of ⟨B5 rfl,B5 rfl,trivial⟩ trivial
 refine k2 ?_;refine A7 (A6 (A8 Z Z) Z (A6 (K8 Z Z (by (simp;omega))) Z (A6 (K8 Z Z (by (simp;omega))) Z (A6 (A8 Z Z) Z (A6 (K8 Z Z (by (simp;omega))) Z (A6 (A9 Z Z) Z (B0 ?_)))))));refine k1 (G5 ?_);exact C0 (rs:=[F9 ([62,32]++a++[10]++n)]) (H6 rfl rfl rfl) rfl
theorem UW{gf:Fr}{ob:Obs}{c:Str}{a:TC}(d:D4 ob 700=some (.tbx 80 [a,.buf 701 UInt8 1 uL c])) :
  AL.Met Tryz.prog 50 [.one (.ref 700 0)] gf ob [] (fun rs ob'=>rs=[.one (.p (.v (.int .i64 c.length)))]/\ob'=ob):=by
 refine AL.Met.intro Tryz.func50 (by decide) Z Z Z ?_;refine k2 ?_;refine A7 (A6 (A9 Z Z) Z (B0 ?_));refine k1 (k2 ?_);refine A7 (A6 (A8 Z Z) Z (A6 (B7 Z) Z (A6 (B1 Z) Z (A6 (jO Z d Z) Z (A6 (F0 Z (.buf _ _ _ _ _)) Z (A6 (A9 Z Z) Z (B0 ?_)))))));refine k1 (G5 ?_);exact G1 (O9 rfl rfl) (by repeat (first | exact C5 | refine C3 rfl ?_ | refine D3 _ ?_)) (fun _ _ h=>h) ⟨rfl,rfl⟩
def UX:Bool->TC
 | false=>.p (.v (.pointer none))
 | true=>.ref 700 0
theorem XP(b:Bool):UX b=.p (.v (.pointer none))\/UX b=.ref 700 0:=by cases b<;>simp[UX]
def fF(b:List Str)(i:Nat):Str:=(b.take i).flatten
theorem HJ{a:List Str}{i:Nat}{o:Str}(h:a[i]?=some o):fF a (i+1)=fF a i++o:=by
 unfold fF;rw[List.take_add_one,h];simp
theorem wE(a:List Str)(i:Nat):(fF a i).length<=a.flatten.length:=by
 unfold fF
 conv=>rhs;rw[<-A68 i a,A58,A35]
 omega
theorem XQ(g:Graph)(s:Str)(m c:List Str)(h:FewT g)(K:X4 g=0)(hs:s.length<=536870912)(D:yO s=(m,0))(G:c.length=m.length)(J:∀(i:Nat) (d o:Str),m[i]?=some d->c[i]?=some o->FnOk Tryz.prog 49 [I1 g,F9 d] (fun rs=>rs=[F9 o]))
  (H:c.flatten.length<=16777216) (N:m.length<=1000):FnOk Tryz.prog 18 [I1 g,F9 s] (fun rs=>rs=[F9 c.flatten,E2 0]):=by
 have E:=DM g h;rw[K]at E;have F:=QJ s hs;rw[D]at F;have w:c.flatten=fF c c.length:=by unfold fF;rw[A44]
 rw[w];refine FnOk.intro Tryz.func18 (by decide) Z Z Z Z ?_;refine k2 ?_;refine A7 (A6 (A9 Z Z) Z (A6 (A9 Z Z) Z (B0 ?_)));refine k1 (k2 (k2 ?_));refine A7 (A6 (A8 Z Z) Z (C4 (E) Z Z Z ?_));rintro _ rfl;refine A6 (A9 Z Z) Z (B0 ?_);refine k1 (k2 ?_);refine A7 (A6 (A8 Z Z) Z (A6 (K4 Z Z) Z (B0 ?_)));refine k1 ?_;refine B8 rfl (fun j=>?_) (fun j=>?_)
 ·exact absurd rfl (A0 j)
 refine k5 (k1 (k2 ?_));refine A7 (A6 (A8 Z Z) Z (C4 (F) Z Z Z ?_));rintro _ rfl;refine A6 (A8 Z Z) Z (A6 (B6 Z Z) Z (A6 (B6 Z Z) Z (A6 (A9 Z Z) Z (A6 (A9 Z Z) Z (B0 ?_)))));refine k1 (k2 (k2 ?_));refine A7 (A6 (A8 Z Z) Z (A6 (K4 Z Z) Z (B0 ?_)));refine k1 ?_;refine B8 rfl (fun j=>?_) (fun j=>?_)
 ·exact absurd rfl (A0 j)
 refine k5 (k1 (k2 ?_));refine A7 (D2 (uU 700 Z) Z (B0 ?_));refine k1 (k2 (k2 ?_));refine G8 (A11 701 UInt8 1 uL 5 (kb:=700) (o:=1) Z Z Z) ?_;refine A7 (A6 (A8 Z Z) Z (A6 (F0 Z (.pure _ _ _ _)) Z (A6 (A8 Z Z) Z (B0 ?_))));refine k1 (k3 ?_);refine E3 (X:=Nat×Bool) (fun x=>([(0,D7 Commit 3 J3 g),(9,.s (.one (.ref 700 0))),(25,D7 Str 1 J9 m),(26,C7 m.length),(27,C7 x.1)],[(700,.tbx 80 [UX x.2,.buf 701 UInt8 1 uL (fF c x.1)]),(701,.spare (fF c x.1).length 1 5)])) (fun x=>x.1<=m.length) (fun x=>m.length-x.1) (0,false) (Nat.zero_le _) (Sees.of ⟨B5 rfl,B5 rfl,B5 rfl,B5 rfl,B5 rfl,trivial⟩ ⟨rfl,rfl,trivial⟩) ?_;rintro⟨i,a⟩ M;dsimp only at M ⊢;have ha:=XP a;have L:=wE c i;refine k2 ?_;refine A7 (A6 (F2 Z Z) Z (B0 ?_));refine k1 (k2 ?_);refine B8 rfl (fun j=>?_) (fun j=>?_);rotate_left
 ·have B:i=c.length:=by have v:=A1 j;(try dsimp only at v);omega
  rw[B];refine k6 (k2 ?_);refine A7 (qO (k:=700) (k':=701) ⟨_,rfl,rfl,rfl⟩ fD Z Z Z Z Z ha Z (A6 (A9 Z Z) Z (A6 (A9 Z Z) Z (B0 ?_))));refine k1 (G5 ?_);exact C0 (rs:=[F9 (fF c c.length),E2 0]) (R0 rfl rfl rfl rfl rfl) rfl
 have z:i<m.length:=by have v:=A0 j;(try dsimp only at v);omega
 obtain⟨d,q⟩:∃d,d=m[i]:=⟨_,rfl⟩
 have I:m[i]?=some d:=by rw[q];exact A32 z
 obtain⟨o,O⟩:∃o,o=c[i]:=⟨_,rfl⟩
 have A:c[i]?=some o:=by rw[O];exact A32 (by omega)
 have C:=J i d o I A;have hs:=HJ A;have y:=wE c (i+1);rw[hs,A35]at y;refine k5 (k1 (k2 (k3 (k2 ?_))));refine A7 (A6 (C1 Z (.pure _ _ _ _) Z (by omega) I) Z (A6 (D1 Z Z) Z (A6 (A9 Z Z) Z (B0 ?_))));refine k1 (k2 ?_);refine A7 (A6 (A8 Z Z) Z (A6 (A8 Z Z) Z (C4 (C) Z Z Z ?_)));rintro _ rfl;refine R4 (U5 ⟨⟨UX a,ha,rfl⟩,rfl⟩ (by omega)) Z Z Z ?_;rintro _ _ ⟨rfl,rfl⟩;refine B0 ?_;refine k1 (k2 ?_);refine A7 (R4 (UW Z) Z Z Z ?_);rintro _ _ ⟨rfl,rfl⟩;refine A6 (P8 Z Z) Z (B0 ?_);refine k1 ?_;refine B8 rfl (fun j=>?_) (fun j=>?_)
 ·exfalso;have v:=A0 j;rw[A35]at v;omega
 refine k5 (k4 (k1 ?_));refine A7 (A6 (C9 Z Z (by omega)) Z (A6 (A8 Z Z) Z (B0 ?_)));refine k1 ?_;exact⟨(i+1,true),z,by dsimp only;omega,(by dsimp only;rw[hs];exact (Sees.of ⟨B5 rfl,B5 rfl,B5 rfl,B5 rfl,B5 rfl,trivial⟩ ⟨rfl,rfl,trivial⟩))⟩
theorem HL(g:Graph)(l:List Int)(h:FewT g)(m:X4 g=0)(q:l.length<=1000)(n:∀x∈l,dT g x):FnOk Tryz.prog 80 [I1 g,O1 l] (fun rs=>rs=[E2 0]):=by
 have f:=DM g h;rw[m]at f;refine FnOk.intro Tryz.func80 (by decide) Z Z Z Z ?_;refine k2 ?_;refine A7 (A6 (A9 Z Z) Z (B0 ?_));refine k1 (k2 (k2 ?_));refine A7 (A6 (A8 Z Z) Z (C4 (f) Z Z Z ?_));rintro _ rfl;refine A6 (A9 Z Z) Z (B0 ?_);refine k1 (k2 ?_);refine A7 (A6 (A8 Z Z) Z (A6 (K4 Z Z) Z (B0 ?_)));refine k1 ?_;refine B8 rfl (fun a=>?_) (fun a=>?_)
 ·exact absurd rfl (A0 a)
 refine k5 (k1 (k2 (k2 ?_)));refine A7 (A6 (A8 Z Z) Z (A6 (F0 Z (.pure _ _ _ _)) Z (A6 (A8 Z Z) Z (B0 ?_))));refine k1 (k3 ?_);refine E3 (X:=Nat) (fun i=>([(0,D7 Commit 3 J3 g),(13,D7 Int 1 H1 l),(14,C7 l.length),(15,C7 i)],[])) (fun i=>i<=l.length) (fun i=>l.length-i) 0 (Nat.zero_le _) (Sees.of ⟨B5 rfl,B5 rfl,B5 rfl,B5 rfl,trivial⟩ trivial) ?_;intro i d;dsimp only at d ⊢;refine k2 ?_;refine A7 (A6 (F2 Z Z) Z (B0 ?_));refine k1 (k2 ?_);refine B8 rfl (fun a=>?_) (fun a=>?_);rotate_left
 ·refine k6 (k2 ?_);refine A7 (A6 (A9 Z Z) Z (B0 ?_));refine k1 (G5 ?_);exact C0 (rs:=[E2 0]) (H6 rfl rfl rfl) rfl
 have b:i<l.length:=by have k:=A0 a;(try dsimp only at k);omega
 obtain⟨x,j⟩:∃x,x=l[i]:=⟨_,rfl⟩
 have o:l[i]?=some x:=by rw[j];simp[b]
 have c:=LB g x;rw[A2 (n x (by rw[j];exact A37 b))]at c;refine k5 (k1 (k2 (k3 (k2 ?_))));refine A7 (A6 (C1 Z (.pure _ _ _ _) Z (by omega) o) Z (A6 (D1 Z Z) Z (A6 (A9 Z Z) Z (B0 ?_))));refine k1 (k2 ?_);refine A7 (A6 (A8 Z Z) Z (A6 (A8 Z Z) Z (C4 (c) Z Z Z ?_)));rintro _ rfl;refine A6 (G7 Z) Z (B0 ?_);refine k1 ?_;refine B8 rfl (fun a=>?_) (fun a=>?_)
 ·cases a
 refine k5 (k4 (k1 ?_));refine A7 (A6 (C9 Z Z (by omega)) Z (A6 (A8 Z Z) Z (B0 ?_)));refine k1 ?_;exact⟨i+1,by omega,by omega,Sees.of ⟨B5 rfl,B5 rfl,B5 rfl,B5 rfl,trivial⟩ trivial⟩
def TJ(a:List Bool)(b:List Int):Nat:=2*a.count false+b.length
theorem DO(g:Graph)(c:Nat)(hF:FewG g)(hr:related g=true)(Y:c<g.length):FnOk Tryz.prog 81 [I1 g,E2 c] (fun rs=>rs=[WF (N8 g [(c:Int)])]):=by
 have hg:=hF.len;obtain⟨z,hz⟩:∃z,z=(List.replicate g.length false).set c true:=⟨_,rfl⟩
 have Q:=Dfs.init Y;have an:TJ z [(c:Int)]<=2*g.length:=by
  have J:=yP (l:=List.replicate g.length false) (i:=c) (by rw[A73];exact Y) (by unfold H0;rw[List.getElem?_replicate,A4 Y];rfl);rw[<-hz,List.count_replicate_self]at J;unfold TJ;rw[List.length_singleton];omega
 rw[<-hz]at Q;refine FnOk.intro Tryz.func81 (by decide) Z Z Z Z ?_;refine k2 ?_;refine A7 (A6 (N2 _ 1 dR) Z (B0 ?_));refine k1 (k2 ?_);refine A7 (A6 (A8 Z Z) Z (A6 (F0 Z (.pure _ _ _ _)) Z (D2 (gO 751 Bool dR false Z Z (by omega) (by omega) (fun _=>by first | exact⟨⟨rfl,rfl⟩,trivial⟩ | exact⟨J5 _ _ _,trivial⟩ | exact⟨J5 _ _ _,⟨rfl,rfl⟩,J5 _ _ _,trivial⟩ | exact⟨⟨rfl,rfl⟩,⟨rfl,rfl⟩,trivial⟩) (by first | rfl | (simp[H9,N6,Ob.free,SV.free,S1.free,TC.free]<;>rfl))) Z ?_)));refine A6 (A9 Z Z) Z (B0 ?_);rw[A36];refine k1 (k2 ?_);refine A7 (A6 (A8 Z Z) Z (A6 (A8 Z Z) Z (A6 (I5 Z Z Z (by omega) (by (rw[A73];omega))) Z ?_)));refine F4 (O2 TySz.out Z Z (by (rw[A73];omega)) Z Z) ?_;refine B0 ?_;rw[A36,<-hz];refine k1 (k2 (k2 ?_));refine A7 (A6 (A8 Z Z) Z (D2 (PW 752 (c:=H1) (ys:=[(c:Int)]) (D9 Z Z Z Z H2) Z Z Z Z Z) Z (A6 (A9 Z Z) Z (B0 ?_))));refine k1 (k3 ?_);refine E3 (X:=List Bool×List Int) (fun x=>([(0,D7 Commit 3 J3 g),(5,.s (.one (.mut 751))),(6,.s (.one (.mut 752)))],[(751,.arr Bool 1 dR x.1),(752,.grow 3 Int 1 H1 x.2)])) (fun x=>Dfs g c none 0 x.1 x.2/\TJ x.1 x.2<=2*g.length) (fun x=>TJ x.1 x.2) (z,[(c:Int)]) ⟨Q,an⟩ (Sees.of ⟨B5 rfl,B5 rfl,B5 rfl,trivial⟩ ⟨rfl,rfl,trivial⟩) ?_;rintro⟨C,P⟩ ⟨K,E⟩;dsimp only at K E ⊢;have af:P.length<=2*g.length:=by unfold TJ at E;omega
 refine k2 (k2 ?_);refine A7 (A6 (A8 Z Z) Z (A6 (r7 Z Z) Z (A6 (P8 Z Z) Z (B0 ?_))));refine k1 ?_;refine B8 rfl (fun B=>?_) (fun B=>?_);rotate_left
 ·have ah:P=[]:=List.length_eq_zero_iff.1 (by have J:=A1 B;omega);rw[ah]at K;have T:=K.done hr Y;rw[<-T];refine G8 (Sees.freeze (k:=751) Z) ?_;refine k6 (k2 ?_);refine A7 (A6 (A8 Z Z) Z (A6 (A9 Z Z) Z (B0 ?_)));refine k1 (G5 ?_);exact C0 (rs:=[WF C]) (H6 rfl rfl rfl) rfl
 have V:0<P.length:=by have J:=A0 B;omega
 obtain⟨r,x,F⟩:∃(r:List Int) (x:Int),P=r++[x]:=⟨P.dropLast,P.getLast (List.length_pos_iff.1 V),(List.dropLast_concat_getLast _).symm⟩
 have O:=K.opn x (by rw[F];simp);obtain⟨j,am⟩:∃n:Nat,x=(n:Int):=⟨x.toNat,by omega⟩
 rw[am]at F O;rw[A36]at O;have G:=EW O.2;rw[K.len]at G;rw[F]at K E af;have ab:=K.pop;have ar:(r++[(j:Int)]).length=r.length+1:=by simp
 have al:(r++[(j:Int)])[(((r++[(j:Int)]).length:Int)-1).toNat]?=some (j:Int):=by
  rw[show (((r++[(j:Int)]).length:Int)-1).toNat=r.length by omega,List.getElem?_concat_length]
 have R:(r++[(j:Int)]).take (((r++[(j:Int)]).length:Int)-1).toNat=r:=by
  rw[show (((r++[(j:Int)]).length:Int)-1).toNat=r.length by omega,List.take_left]
 have ae:TJ C r+1=TJ C (r++[(j:Int)]):=by unfold TJ;omega
 obtain⟨q,L⟩:∃q,q=g[j]:=⟨_,rfl⟩
 have ak:g[((j:Nat):Int).toNat]?=some q:=by rw[L,A36];simp[G]
 have M:F1 g j=q.Parents:=by rw[gK G,L]
 have hpr:=(O4 hr j).1;rw[M]at hpr;have aq:=hF.pars q (by rw[L];exact A37 G);subst F;refine k5 (k1 (k3 (k2 ?_)));refine A7 (A6 (A8 Z Z) Z (A6 (A8 Z Z) Z (A6 (r7 Z Z) Z (A6 (K3 Z Z (by omega)) Z (A6 (J4 Z Z Z (by omega) (by omega)) Z (A6 (o7 Z Z al Z) Z (A6 (A9 Z Z) Z (B0 ?_))))))));refine k1 (k2 ?_);refine A7 (A6 (A8 Z Z) Z (A6 (A8 Z Z) Z (A6 (r7 Z Z) Z (A6 (K3 Z Z (by omega)) Z (D2 (CZ Z Z Z (by omega) (by omega) Z) Z (A6 (A9 Z Z) Z (B0 ?_)))))));rw[R];refine k1 (k2 ?_);refine A7 (A6 (A8 Z Z) Z (A6 (A8 Z Z) Z (A6 (C1 Z (.pure _ _ _ _) Z (by omega) ak) Z (A6 (L7 Z) Z (A6 (D1 Z Z) Z (A6 (F0 Z (.pure _ _ _ _)) Z (A6 (A8 Z Z) Z (B0 ?_))))))));refine k1 (k3 ?_);refine E3 (X:=Nat×List Bool×List Int) (fun y=>([(0,D7 Commit 3 J3 g),(5,.s (.one (.mut 751))),(6,.s (.one (.mut 752))),(36,D7 Int 1 H1 q.Parents),(37,C7 q.Parents.length),(38,C7 y.1)],[(751,.arr Bool 1 dR y.2.1),(752,.grow 3 Int 1 H1 y.2.2)])) (fun y=>y.1<=q.Parents.length/\Dfs g c (some j) y.1 y.2.1 y.2.2/\TJ y.2.1 y.2.2<=TJ C r) (fun y=>q.Parents.length-y.1) (0,C,r) ⟨Nat.zero_le _,ab,Nat.le_refl _⟩ (Sees.of ⟨B5 rfl,B5 rfl,B5 rfl,B5 rfl,B5 rfl,B5 rfl,trivial⟩ ⟨rfl,rfl,trivial⟩) ?_;rintro⟨k,d,H⟩ ⟨hk,A,D⟩;dsimp only at hk A D ⊢;have ao:H.length<=2*g.length:=by unfold TJ at D ae E;omega
 have f:=A.len;refine k2 ?_;refine A7 (A6 (F2 Z Z) Z (B0 ?_));refine k1 (k2 ?_);refine B8 rfl (fun B=>?_) (fun B=>?_);rotate_left
 ·have ad:k=q.Parents.length:=by have J:=A1 B;(try dsimp only at J);omega
  rw[ad,<-M]at A;have ac:=A.close;refine k6 (k7 (k7 (k8 Z (k4 (k1 ?_)))));exact⟨(d,H),⟨ac,(by dsimp only;omega)⟩,(by dsimp only;omega),Sees.of ⟨B5 rfl,B5 rfl,B5 rfl,trivial⟩ ⟨rfl,rfl,trivial⟩⟩
 have v:k<q.Parents.length:=by have J:=A0 B;(try dsimp only at J);omega
 have ai:=hpr _ (A37 v);obtain⟨p,hp⟩:∃p:Nat,q.Parents[k]=(p:Int):=⟨q.Parents[k].toNat,by omega⟩
 rw[hp]at ai;have W:q.Parents[k]?=some (p:Int):=by rw[A32 v,hp]
 have I:(F1 g j)[k]?=some (p:Int):=by rw[M];exact W
 have U:p<g.length:=by omega
 obtain⟨b,hb⟩:∃b,b=H0 d p:=⟨_,rfl⟩
 have aj:d[((p:Nat):Int).toNat]?=some b:=by rw[hb,A36];exact gA (by omega)
 refine k5 (k1 (k2 (k3 (k2 ?_))));refine A7 (A6 (C1 Z (.pure _ _ _ _) Z (by omega) W) Z (A6 (D1 Z Z) Z (A6 (A9 Z Z) Z (B0 ?_))));refine k1 (k2 ?_);refine A7 (A6 (A8 Z Z) Z (A6 (A8 Z Z) Z (A6 (I5 Z Z Z (by omega) (by (rw[f];omega))) Z ?_)));refine A6 (U8 Z Z aj Z) Z (A6 (G7 Z) Z (B0 ?_));refine k1 ?_;refine B8 rfl (fun B=>?_) (fun B=>?_)
 ·have S:H0 d p=false:=by
   rw[<-hb];cases b
   ·rfl
   ·cases B
  have ap:=yP (l:=d) (i:=p) (by omega) S;refine k2 ?_;refine A7 (A6 (A8 Z Z) Z (A6 (A8 Z Z) Z (A6 (I5 Z Z Z (by omega) (by (rw[f];omega))) Z ?_)));refine F4 (O2 TySz.out Z Z (by (rw[f];omega)) Z Z) ?_;refine B0 ?_;rw[A36];refine k1 ?_;refine A7 (A6 (A8 Z Z) Z (A6 (A8 Z Z) Z (A6 (E0 (c:=H1) (ys:=[(p:Int)]) (D9 Z Z Z Z H2) Z Z Z) Z (D2 (cY Z Z Z (.pure _ _ _ _) (by (simp only[A34,A38];omega)) Z) Z (A6 (A9 Z Z) Z (B0 ?_))))));refine k4 (k1 ?_);refine A7 (A6 (C9 Z Z (by omega)) Z (A6 (A8 Z Z) Z (B0 ?_)));refine k1 ?_;refine⟨(k+1,d.set p true,H++[(p:Int)]),⟨v,A.push I U,?_⟩,by dsimp only;omega,(Sees.of ⟨B5 rfl,B5 rfl,B5 rfl,B5 rfl,B5 rfl,B5 rfl,trivial⟩ ⟨rfl,rfl,trivial⟩)⟩;dsimp only;unfold TJ at D ⊢;rw[A35,List.length_singleton];omega
 ·have ag:H0 d p=true:=by
   rw[<-hb];cases b
   ·cases B
   ·rfl
  refine k5 (k4 (k1 ?_));refine A7 (A6 (C9 Z Z (by omega)) Z (A6 (A8 Z Z) Z (B0 ?_)));refine k1 ?_;exact⟨(k+1,d,H),⟨v,A.skip I (by rw[A36];exact ag),D⟩,by dsimp only;omega,(Sees.of ⟨B5 rfl,B5 rfl,B5 rfl,B5 rfl,B5 rfl,B5 rfl,trivial⟩ ⟨rfl,rfl,trivial⟩)⟩
abbrev ZH(cov:List Bool):Unit->Nat->Cell:=fun _ _=>.list Bool 1 dR cov
theorem LR(cov:List Bool)(x:Int)(b:Bool)(d:0<=x)(a:cov[x.toNat]?=some b):AL.Met Tryz.prog 152 [XN x,.one (.eref Unit 1 (ZH cov) () 0)] [] [] [] (fun rs ob'=>rs=[UQ b]/\ob'=[]):=by
 have c:x.toNat<cov.length:=(List.getElem?_eq_some_iff.1 a).1;refine AL.Met.intro Tryz.func152 (by decide) Z Z Z ?_;refine k2 ?_;refine A7 (A6 (A9 Z Z) Z (B0 ?_));refine k1 (k2 ?_);refine A7 (A6 (D1 Z Z) Z (A6 (A8 Z Z) Z (A6 (C1 Z (.pure _ _ _ _) Z (by omega) a) Z (A6 (D1 Z Z) Z (A6 (A9 Z Z) Z (B0 ?_))))));refine k1 (G5 ?_);exact G1 (O9 rfl rfl) (by repeat (first | exact C5 | refine C3 rfl ?_ | refine D3 _ ?_)) (ObIn.spec (ob':=[]) trivial) ⟨rfl,rfl⟩
theorem DP(f:FuncId)(α:Type)(d:Nat)(c:α->Nat->Cell)(v:α)(l:List Int)(y:l.length<=1073741824)(m:∀x∈l,AL.Met Tryz.prog f [XN x,.one (.eref α d c v 0)] [] [] [] (fun h ob'=>h=[UQ false]/\ob'=[])) :
  AL.Met Tryz.prog 230 [.one (.p (.list Int 1 H1 l)),.one (.fncE f α d c v)] [] [] [] (fun h ob'=>h=[XN (-1)]/\ob'=[]):=by
 refine AL.Met.intro Tryz.func230 (by decide) Z Z Z ?_;refine k2 ?_;refine A7 (A6 (A9 Z Z) Z (B0 ?_));refine k1 (k2 (k2 ?_));refine A7 (A6 (A8 Z Z) Z (A6 (F0 Z (.pure _ _ _ _)) Z (A6 (A8 Z Z) Z (B0 ?_))));refine k1 (k3 ?_);refine E3 (X:=Nat) (fun i=>([(0,D7 Int 1 H1 l),(1,.s (.one (.fncE f α d c v))),(7,C7 l.length),(8,C7 i)],[])) (fun i=>i<=l.length) (fun i=>l.length-i) 0 (Nat.zero_le _) (Sees.of ⟨B5 rfl,B5 rfl,B5 rfl,B5 rfl,trivial⟩ trivial) ?_;intro i q;dsimp only at q ⊢;refine k2 ?_;refine A7 (A6 (F2 Z Z) Z (B0 ?_));refine k1 (k2 ?_);refine B8 rfl (fun b=>?_) (fun b=>?_);rotate_left
 ·refine k6 (k2 ?_);refine A7 (A6 (A9 Z Z) Z (B0 ?_));refine k1 (G5 ?_);exact G1 (O9 rfl rfl) (by repeat (first | exact C5 | refine C3 rfl ?_ | refine D3 _ ?_)) (ObIn.spec (ob':=[]) trivial) ⟨rfl,rfl⟩
 have a:i<l.length:=by have k:=A0 b;(try dsimp only at k);omega
 obtain⟨x,j⟩:∃x,x=l[i]:=⟨_,rfl⟩
 have w:l[i]?=some x:=by rw[j];simp[a]
 have g:=m x (by rw[j];exact A37 a);refine k5 (k1 (k2 (k3 (k2 ?_))));refine A7 (A6 (A8 Z Z) Z (A6 (A9 Z Z) Z (B0 ?_)));refine k1 (k2 ?_);refine A7 (A6 (A8 Z Z) Z (A6 (A8 Z Z) Z (A6 (A8 Z Z) Z (A6 (C1 Z (.pure _ _ _ _) Z (by omega) w) Z (A6 (D1 Z Z) Z (A6 (XH (g) Z Z Z) Z (B0 ?_)))))));refine k1 ?_;refine B8 rfl (fun b=>?_) (fun b=>?_)
 ·cases b
 ·refine k5 (k4 (k1 ?_));refine A7 (A6 (C9 Z Z (by omega)) Z (A6 (A8 Z Z) Z (B0 ?_)));refine k1 ?_;exact⟨i+1,by omega,by omega,Sees.of ⟨B5 rfl,B5 rfl,B5 rfl,B5 rfl,trivial⟩ trivial⟩
theorem zG(f:FuncId)(α:Type)(a:Nat)(c:α->Nat->Cell)(v:α)(l:List Int)(g:l.length<=1073741824)(d:∀x∈l,AL.Met Tryz.prog f [XN x,.one (.eref α a c v 0)] [] [] [] (fun rs ob'=>rs=[UQ false]/\ob'=[])) :
  AL.Met Tryz.prog 151 [.one (.p (.list Int 1 H1 l)),.one (.fncE f α a c v)] [] [] [] (fun rs ob'=>rs=[.one (.p (.list Int 1 H1 l))]/\ob'=[]):=by
 refine AL.Met.intro Tryz.func151 (by decide) Z Z Z ?_;refine k2 ?_;refine A7 (A6 (N2 _ 1 H1) Z (B0 ?_));refine k1 (k2 ?_);refine A7 (A6 (A8 Z Z) Z (A6 (A8 Z Z) Z (AQ (DP f α a c v l g d) Z Z Z Z ?_)));rintro _ _ ⟨rfl,rfl⟩;refine⟨rfl,?_⟩;refine A6 (A9 Z Z) Z (B0 ?_);refine k1 (k2 (k2 ?_));refine A7 (A6 (A8 Z Z) Z (A6 (I3 Z Z) Z (B0 ?_)));refine k1 ?_;refine B8 rfl (fun b=>?_) (fun b=>?_);rotate_left
 ·exact absurd rfl (A1 b)
 refine k2 ?_;refine A7 (A6 (A8 Z Z) Z (A6 (A9 Z Z) Z (B0 ?_)));refine k1 (G5 (I2 ?_));exact G1 (O9 rfl rfl) (by repeat (first | exact C5 | refine C3 rfl ?_ | refine D3 _ ?_)) (ObIn.spec (ob':=[]) trivial) ⟨rfl,rfl⟩
def aD(g:Graph)(l:List Int)(k:Nat):List Bool:=s5 g (l.take k) (List.replicate g.length false)
theorem oV(g:Graph):∀(l:List Int) (c:Int) (a:List Bool),s5 g (l++[c]) a=P2 g (s5 g l a) c g.length
 | [],_,_=>rfl
 | d::r,c,a=>by
  rw[A57,s5,s5];exact oV g r c _
theorem DQ{g:Graph}{l:List Int}{k:Nat}{c:Int}(h:l[k]?=some c):aD g l (k+1)=P2 g (aD g l k) c g.length:=by
 unfold aD;rw[List.take_add_one,h,Option.toList_some,oV]
theorem sK(g:Graph):∀(l:List Int) (a:List Bool),(s5 g l a).length=a.length
 | [],_=>rfl
 | c::r,a=>by rw[s5,sK g r,x2]
theorem HM(g:Graph)(l:List Int)(k:Nat):(aD g l k).length=g.length:=by unfold aD;rw[sK,A73]
theorem QK(g:Graph)(l:List Int)(Y:FewG g)(hr:related g=true)(hl:l.length<=1000)(G:∀x∈l,0<=x/\x<(g.length:Int))(J:∀x∈l,H0 (s5 g l (List.replicate g.length false)) x.toNat=false) :
  FnOk Tryz.prog 82 [I1 g,O1 l] (fun rs=>rs=[O1 l]):=by
 have w:=Y.len;refine FnOk.intro Tryz.func82 (by decide) Z Z Z Z ?_;refine k2 ?_;refine A7 (A6 (N2 _ 1 H1) Z (B0 ?_));refine k1 (k2 ?_);refine A7 (A6 (A8 Z Z) Z (A6 (F0 Z (.pure _ _ _ _)) Z (D2 (gO 751 Bool dR false Z Z (by omega) (by omega) (fun _=>by first | exact⟨⟨rfl,rfl⟩,trivial⟩ | exact⟨J5 _ _ _,trivial⟩ | exact⟨J5 _ _ _,⟨rfl,rfl⟩,J5 _ _ _,trivial⟩ | exact⟨⟨rfl,rfl⟩,⟨rfl,rfl⟩,trivial⟩) (by first | rfl | (simp[H9,N6,Ob.free,SV.free,S1.free,TC.free]<;>rfl))) Z ?_)));refine D2 (G3 5 Z) Z (F4 (C2 TySz.out Z Z Z Z Z Z) (B0 ?_));rw[A36];refine k1 (k2 (k2 ?_));refine A7 (A6 (A8 Z Z) Z (A6 (F0 Z (.pure _ _ _ _)) Z (A6 (A8 Z Z) Z (B0 ?_))));refine k1 (k3 ?_);refine E3 (X:=Nat) (fun k=>([(0,D7 Commit 3 J3 g),(1,D7 Int 1 H1 l),(5,.s (.one (.ref 5 0))),(13,D7 Int 1 H1 l),(14,C7 l.length),(15,C7 k)],[(5,.box [.mut 751]),(751,.arr Bool 1 dR (aD g l k))])) (fun k=>k<=l.length) (fun k=>l.length-k) 0 (Nat.zero_le _) (by dsimp only;rw[show aD g l 0=List.replicate g.length false by simp[aD,s5]];exact (Sees.of ⟨B5 rfl,B5 rfl,B5 rfl,B5 rfl,B5 rfl,B5 rfl,trivial⟩ ⟨rfl,rfl,trivial⟩)) ?_;intro k hk;dsimp only at hk ⊢;have I:=HM g l k;refine k2 ?_;refine A7 (A6 (F2 Z Z) Z (B0 ?_));refine k1 (k2 ?_);refine B8 rfl (fun H=>?_) (fun H=>?_);rotate_left
 ·have Q:k=l.length:=by have D:=A1 H;(try dsimp only at D);omega
  obtain⟨cov,E⟩:∃cov,cov=s5 g l (List.replicate g.length false):=⟨_,rfl⟩
  have O:aD g l k=cov:=by rw[Q,E];unfold aD;rw[A44]
  rw[<-E]at J;rw[O]at I ⊢
  have hM:=zG 152 Unit 1 (ZH cov) () l (by omega) (fun x V=>LR cov x false (G x V).1 (by
   have D:=G x V
   rw[gA (by omega),J x V]))
  refine G8 (Sees.freeze (k:=751) Z) ?_;refine G8 (Sees.shutB (t:=5) (k:=5) (cs:=[Cell.list Bool 1 dR cov]) (α:=Unit) (c:=ZH cov) () Z Z (fun j hj=>by cases j with | zero=>rfl | succ j=>exact absurd hj (by simp))) ?_;refine k6 (k2 ?_);refine A7 (A6 (A8 Z Z) Z (A6 (GK Z) Z (AQ (hM) Z Z Z Z ?_)));rintro _ _ ⟨rfl,rfl⟩;refine⟨rfl,?_⟩;refine A6 (A9 Z Z) Z (B0 ?_);refine k1 (G5 ?_);exact C0 (rs:=[O1 l]) (H6 rfl rfl rfl) rfl
 have F:k<l.length:=by have D:=A0 H;(try dsimp only at D);omega
 obtain⟨c,hc⟩:∃c,c=l[k]:=⟨_,rfl⟩
 have hv:l[k]?=some c:=by rw[hc];exact A32 F
 have ad:=G c (by rw[hc];exact A37 F);obtain⟨B,M⟩:∃n:Nat,c=(n:Int):=⟨c.toNat,by omega⟩
 subst M;have W:=DO g B Y hr (by omega);have A:=DQ (g:=g) hv;obtain⟨R,L⟩:∃R,R=N8 g [(B:Int)]:=⟨_,rfl⟩
 have ac:R.length=g.length:=by rw[L,eU]
 obtain⟨C,hC⟩:∃C,C=aD g l k:=⟨_,rfl⟩
 rw[<-hC]at A I ⊢;rw[<-L]at W;refine k5 (k1 (k2 (k3 (k2 ?_))));refine A7 (A6 (C1 Z (.pure _ _ _ _) Z (by omega) hv) Z (A6 (D1 Z Z) Z (A6 (A9 Z Z) Z (B0 ?_))));refine k1 (k2 ?_);refine A7 (A6 (A8 Z Z) Z (A6 (A8 Z Z) Z (C4 (W) Z Z Z ?_)));rintro _ rfl;refine A6 (F0 Z (.pure _ _ _ _)) Z (A6 (A8 Z Z) Z (B0 ?_));refine k1 (k3 ?_);refine E3 (X:=Nat) (fun i=>([(0,D7 Commit 3 J3 g),(1,D7 Int 1 H1 l),(5,.s (.one (.ref 5 0))),(7,C7 B),(13,D7 Int 1 H1 l),(14,C7 l.length),(15,C7 k),(21,D7 Bool 1 dR R),(22,C7 R.length),(23,C7 i)],[(5,.box [.mut 751]),(751,.arr Bool 1 dR (P2 g C B i))])) (fun i=>i<=g.length) (fun i=>g.length-i) 0 (Nat.zero_le _) (by dsimp only;rw[NT];exact (Sees.of ⟨B5 rfl,B5 rfl,B5 rfl,B5 rfl,B5 rfl,B5 rfl,B5 rfl,B5 rfl,B5 rfl,B5 rfl,trivial⟩ ⟨rfl,rfl,trivial⟩)) ?_;intro i hi;dsimp only at hi ⊢;have q:=x2 g C B i;refine k2 ?_;refine A7 (A6 (F2 Z Z) Z (B0 ?_));refine k1 (k2 ?_);refine B8 rfl (fun H=>?_) (fun H=>?_);rotate_left
 ·have P:i=g.length:=by have D:=A1 H;(try dsimp only at D);omega
  refine k6 (k7 (k7 (k8 Z (k4 (k1 ?_)))));refine A7 (A6 (C9 Z Z (by omega)) Z (A6 (A8 Z Z) Z (B0 ?_)));refine k1 ?_;refine⟨k+1,by omega,by omega,?_⟩;rw[A,<-P];exact (Sees.of ⟨B5 rfl,B5 rfl,B5 rfl,B5 rfl,B5 rfl,B5 rfl,trivial⟩ ⟨rfl,rfl,trivial⟩)
 have ab:i<g.length:=by have D:=A0 H;(try dsimp only at D);omega
 obtain⟨b,hb⟩:∃b,b=H0 R i:=⟨_,rfl⟩
 have T:R[i]?=some b:=by rw[hb];exact gA (by omega)
 obtain⟨o,ho⟩:∃o,o=H0 (P2 g C B i) i:=⟨_,rfl⟩
 have U:(P2 g C B i)[((i:Nat):Int).toNat]?=some o:=by rw[ho,A36];exact gA (by rw[q];omega)
 have K:=NU (g:=g) (cov:=C) (c:=(B:Int)) (n:=i) (by omega);rw[<-ho,<-L,<-hb]at K;refine k5 (k1 (k2 (k3 (k2 ?_))));refine A7 (A6 (A8 Z Z) Z (A6 (C1 Z (.pure _ _ _ _) Z (by omega) T) Z (A6 (D1 Z Z) Z (A6 (A9 Z Z) Z (A6 (A9 Z Z) Z (B0 ?_))))));refine k1 ?_;refine D8 (by kernel_rfl) (by kernel_rfl) (B3 (B2 Z Z Z) Z Z (B3 (A8 Z Z) Z Z (B3 (B2 Z Z Z) Z Z (B3 (A8 Z Z) Z Z (B3 (I5 Z Z Z (by omega) (by (rw[q];omega))) Z Z ?_)))));refine B3 (U8 Z Z U Z) Z Z (B3 (A8 Z Z) Z Z (C6 Z Z (fun w=>by rw[w];exact A8 Z Z) Z Z ?_));refine C6 Z Z (fun w=>by rw[w];exact A8 Z Z) Z Z ?_;refine uR Z Z (.gd (.val _)) (fun w=>by obtain⟨y,z⟩:=T9 w;(try rw[y]);(try rw[z]);exact A8 Z Z) Z Z ?_;refine uR Z Z (.gd (.val _)) (fun w=>by obtain⟨y,z⟩:=T9 w;(try rw[y]);(try rw[z]);exact A8 Z Z) Z Z ?_;refine uR Z Z (.gd (.val _)) (fun w=>by obtain⟨y,z⟩:=T9 w;(try rw[y]);(try rw[z]);exact K4 Z Z) Z Z ?_;refine C6 Z Z (fun w=>by rw[w];exact B9 Z (fun h=>by first | rfl | (rw[h];rfl)) (fun h=>by first | rfl | (rw[h];rfl))) Z Z ?_;refine B3 (B9 Z (fun h=>by first | rfl | (rw[h];rfl)) (fun h=>by first | rfl | (rw[h];rfl))) Z Z ?_;refine B3 (I5 Z Z Z (by omega) (by (rw[q];omega))) Z Z ?_;refine lZ (O2 TySz.out Z Z (by (rw[q];omega)) Z Z) Z ?_;refine J8 ?_;refine k4 (k1 ?_);have S:(if o=true then true else if b=true then decide ((i:Int)≠(B:Int)) else false)=(o||(b&&decide ((i:Int)≠(B:Int)))):=by cases o<;>cases b<;>rfl
 rw[S,A36];refine A7 (A6 (C9 Z Z (by omega)) Z (A6 (A8 Z Z) Z (B0 ?_)));refine k1 ?_;refine⟨i+1,by omega,by omega,?_⟩;rw[<-K];exact (Sees.of ⟨B5 rfl,B5 rfl,B5 rfl,B5 rfl,B5 rfl,B5 rfl,B5 rfl,B5 rfl,B5 rfl,B5 rfl,trivial⟩ ⟨rfl,rfl,trivial⟩)
theorem QL(g:Graph)(a b:Nat)(h:FewT g)(G:X4 g=0)(ha:a<g.length)(hb:b<g.length)(F:FnOk Tryz.prog 82 [I1 g,O1 (V8 g a b g.length)] (fun rs=>rs=[O1 (qE g a b)])) :
  FnOk Tryz.prog 31 [I1 g,E2 a,E2 b] (fun rs=>rs=[O1 (qE g a b),E2 0]):=by
 have v:=h.few;have k:=v.len;have I:=yK G
 have J:=HL g [(a:Int),(b:Int)] h G (by simp) (fun x m=>by
  rcases A39.1 m with rfl | m
  ·exact⟨by omega,by omega⟩
  ·rw[List.mem_singleton.1 m];exact⟨by omega,by omega⟩)
 have D:=DO g a v I.rel ha;have E:=DO g b v I.rel hb;obtain⟨R,K⟩:∃R,R=qE g a b:=⟨_,rfl⟩
 obtain⟨x,m⟩:∃x,x=N8 g [(a:Int)]:=⟨_,rfl⟩
 obtain⟨y,C⟩:∃y,y=N8 g [(b:Int)]:=⟨_,rfl⟩
 have O:x.length=g.length:=by rw[m,eU]
 have P:y.length=g.length:=by rw[C,eU]
 rw[<-m]at D;rw[<-C]at E;rw[<-K]at F ⊢;refine FnOk.intro Tryz.func31 (by decide) Z Z Z Z ?_;refine k2 ?_;refine A7 (A6 (N2 _ 1 H1) Z (A6 (A9 Z Z) Z (B0 ?_)));refine k1 (k2 (k2 ?_));refine A7 (A6 (A8 Z Z) Z (A6 (A8 Z Z) Z (A6 (A8 Z Z) Z (A6 (E0 (c:=H1) (ys:=[(a:Int),(b:Int)]) (D9 Z Z Z Z (D9 Z Z Z Z H2)) Z Z Z) Z (C4 (J) Z Z Z ?_)))));rintro _ rfl;refine A6 (A9 Z Z) Z (B0 ?_);refine k1 (k2 ?_);refine A7 (A6 (A8 Z Z) Z (A6 (K4 Z Z) Z (B0 ?_)));refine k1 ?_;refine B8 rfl (fun j=>?_) (fun j=>?_)
 ·exact absurd rfl (A0 j)
 refine k5 (k1 (k2 ?_));refine A7 (A6 (A8 Z Z) Z (A6 (A8 Z Z) Z (C4 (D) Z Z Z ?_)));rintro _ rfl;refine A6 (A8 Z Z) Z (A6 (A8 Z Z) Z (C4 (E) Z Z Z ?_));rintro _ rfl;refine A6 (A9 Z Z) Z (A6 (A9 Z Z) Z (B0 ?_));refine k1 (k2 ?_);refine A7 (D2 (r5 11 _ H1 Z) Z (B0 ?_));refine k1 (k2 (k2 ?_));refine A7 (A6 (A8 Z Z) Z (A6 (F0 Z (.pure _ _ _ _)) Z (A6 (A8 Z Z) Z (B0 ?_))));refine k1 (k3 ?_);refine E3 (X:=Nat) (fun i=>([(0,D7 Commit 3 J3 g),(9,D7 Bool 1 dR x),(10,D7 Bool 1 dR y),(11,.s (.one (.buf 11 Int 1 H1 (V8 g a b i)))),(28,C7 g.length),(29,C7 i)],[(11,.spare (V8 g a b i).length 1 3)])) (fun i=>i<=g.length) (fun i=>g.length-i) 0 (Nat.zero_le _) (Sees.of ⟨B5 rfl,B5 rfl,B5 rfl,B5 rfl,B5 rfl,B5 rfl,trivial⟩ ⟨rfl,trivial⟩) ?_;intro i M;dsimp only at M ⊢;have L:=NS g a b i;refine k2 ?_;refine A7 (A6 (F2 Z Z) Z (B0 ?_));refine k1 (k2 ?_);refine B8 rfl (fun j=>?_) (fun j=>?_);rotate_left
 ·have z:i=g.length:=by have q:=A1 j;(try dsimp only at q);omega
  rw[z];refine k6 (k2 ?_);refine A7 (A6 (A8 Z Z) Z (A6 (A8 Z Z) Z (C4 (F) Z Z Z ?_)));rintro _ rfl;refine A6 (A9 Z Z) Z (A6 (A9 Z Z) Z (B0 ?_));refine k1 (G5 ?_);exact C0 (rs:=[O1 R,E2 0]) (R0 rfl rfl rfl rfl rfl) rfl
 have H:i<g.length:=by have q:=A0 j;(try dsimp only at q);omega
 have A:x[i]?=some (H0 x i):=gA (by omega);have B:y[i]?=some (H0 y i):=gA (by omega);have d:=JU g a b i;have w:yQ g a b i=(H0 x i&&H0 y i):=by unfold yQ;rw[m,C]
 rw[w]at d;refine k5 (k1 (k2 (k3 (k2 ?_))));refine A7 (A6 (A8 Z Z) Z (A6 (A9 Z Z) Z (B0 ?_)));refine k1 (k2 ?_);refine A7 (A6 (A8 Z Z) Z (A6 (A8 Z Z) Z (A6 (C1 Z (.pure _ _ _ _) Z (by omega) A) Z (A6 (D1 Z Z) Z (A6 (A8 Z Z) Z (B4 Z Z Z Z (fun k=>by rw[k];exact A8 Z Z) ?_))))));refine B4 Z Z Z Z (fun k=>by rw[k];exact A8 Z Z) ?_;refine B4 Z Z Z Z (fun k=>by have N:=k;(try simp at N);rw[k];exact C1 Z (.pure _ _ _ _) Z (by omega) B) ?_;refine B4 Z Z Z Z (fun k=>by rw[k];exact D1 Z Z) ?_;refine A6 (B9 Z (fun h=>by first | rfl | (rw[h];rfl)) (fun h=>by first | rfl | (rw[h];rfl))) Z ?_;refine B0 ?_;refine k1 ?_;refine B8 rfl (fun j=>?_) (fun j=>?_)
 ·rw[sS]at j;rw[A4 j]at d;refine V1 [(0,D7 Commit 3 J3 g),(9,D7 Bool 1 dR x),(10,D7 Bool 1 dR y),(11,.s (.one (.buf 11 Int 1 H1 (V8 g a b i)))),(12,C7 i),(28,C7 g.length),(29,C7 i)] [(11,.spare (V8 g a b i).length 1 3)] (Sees.of ⟨B5 rfl,B5 rfl,B5 rfl,B5 rfl,B5 rfl,B5 rfl,B5 rfl,trivial⟩ ⟨rfl,trivial⟩) ?_;skip;refine A7 (A6 (A8 Z Z) Z (A6 (A8 Z Z) Z (A6 (E0 (c:=H1) (ys:=[(i:Int)]) (D9 Z Z Z Z H2) Z Z Z) Z (D2 (L1 Z Z Z (.pure _ _ _ _) (by (simp only[A34,A38];omega)) Z) Z (A6 (A9 Z Z) Z (B0 ?_))))));rw[<-d];refine k4 (k1 ?_);refine A7 (A6 (C9 Z Z (by omega)) Z (A6 (A8 Z Z) Z (B0 ?_)));refine k1 ?_;refine⟨i+1,by omega,by omega,?_⟩;rw[d];exact (Sees.of ⟨B5 rfl,B5 rfl,B5 rfl,B5 rfl,B5 rfl,B5 rfl,trivial⟩ ⟨rfl,trivial⟩)
 ·rw[sS]at j;rw[A5 (by rw[j];decide)]at d;refine k5 (k4 (k1 ?_));refine A7 (A6 (C9 Z Z (by omega)) Z (A6 (A8 Z Z) Z (B0 ?_)));refine k1 ?_;refine⟨i+1,by omega,by omega,?_⟩;rw[d];exact (Sees.of ⟨B5 rfl,B5 rfl,B5 rfl,B5 rfl,B5 rfl,B5 rfl,trivial⟩ ⟨rfl,trivial⟩)
abbrev LS:Graph:=[⟨[],0,[⟨[120],[97,10,98,10]⟩]⟩,⟨[0],0,[⟨[120],[97,10,99,10]⟩]⟩]
theorem g33_few:FewT LS:=⟨⟨by decide,by decide⟩,fun c a=>by
 rcases A39.1 a with rfl | a
 ·exact⟨by decide,by decide,by decide⟩
 ·rw[List.mem_singleton.1 a];exact⟨by decide,by decide,by decide⟩⟩
abbrev wB:List Str:=[[98,97,115,101,115],[48],[49]]
abbrev cB:Cmd:=⟨9,0,1,0,false,[]⟩
abbrev wZ:List Str:=[[122,97,112]]
theorem rep0:l4 [0]=[99,111,109,109,105,116,32,48,10]:=by
 unfold l4 WC eT iX eS uG;simp only[A34,A38,List.take,A49,A88,RV 0 (by decide) (by decide)];decide
theorem ZI:M6 320=[51,50,48]:=by
 unfold M6 Lib.itoa;rw[A5 (by decide),A5 (by decide)];have h:Lib.decDigits (320:Int).toNat=[51,50,48]:=by
  rw[Lib.decDigits,dif_neg (by decide),Lib.decDigits,dif_neg (by decide),Lib.decDigits,dif_pos (by decide)];decide
 exact h
theorem ZJ:pW 320=[101,114,114,111,114,32,51,50,48,10]:=by unfold pW;rw[ZI];rfl
theorem XR:FnOk Tryz.prog 31 [I1 LS,E2 0,E2 1] (fun d=>d=[O1 [0],E2 0]):=by
 have b:V8 LS 0 1 2=[0]:=by kernel_rfl
 have a:=QK LS [0] g33_few.few (by kernel_rfl) (by decide) (by decide) (fun x c=>by rw[List.mem_singleton.1 c];kernel_rfl)
 have h:=QL LS 0 1 g33_few (by kernel_rfl) (by decide) (by decide) (by
  show FnOk _ _ [I1 LS,O1 (V8 LS 0 1 2)] _;rw[b,show qE LS 0 1=[0] by kernel_rfl]
  exact a)
 rw[show qE LS 0 1=[0] by kernel_rfl]at h;exact h
theorem UY:FnOk Tryz.prog 49 [I1 LS,F9 (R3 wB)] (fun rs=>rs=[F9 (fM (R3 wB) (l4 [0]) 0)]):=by
 have a:=wD wB (by decide) (by decide) (by decide);rw[show nR wB=(cB,0) by kernel_rfl]at a;have b:=UV LS cB (l4 [0]) 0 g33_few (by kernel_rfl) (by decide) (by kernel_rfl) (by decide) (fun _=>by decide) (by decide) ⟨fun h=>absurd h (by decide),fun h=>absurd h (by decide),fun h=>absurd h (by decide),fun h=>absurd h (by decide),fun h=>absurd h (by decide),fun h=>absurd h (by decide),fun _=>⟨[0],by decide,rfl,XR⟩⟩;exact sJ LS (R3 wB) cB 0 (l4 [0]) 0 (by decide) (by rw[rep0];decide) a fun _=>b
theorem UZ(g:Graph)(a:List Str)(b:a≠[])(d:∀w∈a,w≠[]/\w.all L8=true/\w.length<=1048576)(hs:(R3 a).length<=65536)(h:nR a=(nP,320)) :
  FnOk Tryz.prog 49 [I1 g,F9 (R3 a)] (fun rs=>rs=[F9 (fM (R3 a) [] 320)]):=by
 have c:=wD a b d (by omega);rw[h]at c;exact sJ g (R3 a) nP 320 [] 320 hs (by simp) c fun h=>absurd h (by decide)
abbrev out33:Str:=[62,32,98,97,115,101,115,32,48,32,49,10,99,111,109,109,105,116,32,48,10,62,32,122,97,112,10,101,114,114,111,114,32,51,50,48,10]
theorem wF:FnOk Tryz.prog 6 [] (fun rs=>rs=[F3 true]):=by
 have p:=UZ LS wZ (by decide) (by decide) (by decide) (by kernel_rfl);have k:[fM (R3 wB) (l4 [0]) 0,fM (R3 wZ) [] 320].flatten=out33:=by
  unfold fM;rw[rep0,ZJ];decide
 have j:=XQ LS [98,97,115,101,115,32,48,32,49,10,122,97,112] [R3 wB,R3 wZ] [fM (R3 wB) (l4 [0]) 0,fM (R3 wZ) [] 320] g33_few (by kernel_rfl) (by decide) (by kernel_rfl) rfl (fun i m o b d=>by
  match i,b,d with
  | 0,b,d=>cases b;cases d;exact UY
  | 1,b,d=>cases b;cases d;exact p
  | i+2,b,_=>simp at b) (by rw[k];decide) (by decide)
 rw[k]at j;refine FnOk.intro Tryz.func6 (by decide) Z Z Z Z ?_;refine k2 ?_;refine A7 (A6 (A9 Z Z) Z (B0 ?_));refine k1 (k2 ?_);refine A7 (A6 (F8 Z) Z (A6 (E0 (c:=l9) (ys:=[(⟨[120],[97,10,98,10]⟩:File)]) (D9 Z Z Z Z H2) Z Z Z) Z (A6 (F8 Z) Z (A6 (E0 (c:=H1) (ys:=[(0:Int)]) (D9 Z Z Z Z H2) Z Z Z) Z (A6 (F8 Z) Z (A6 (E0 (c:=l9) (ys:=[(⟨[120],[97,10,99,10]⟩:File)]) (D9 Z Z Z Z H2) Z Z Z) Z (A6 (F8 Z) Z (gL ((A15 Int 1 H1 6 0 Z Z)) (A6 (E0 (c:=J3) (ys:=LS) (D9 Z Z Z Z (D9 Z Z Z Z H2)) Z Z Z) Z (A6 (A9 Z Z) Z (B0 ?_)))))))))));refine k1 (k2 ?_);refine A7 (A6 (A8 Z Z) Z (C4 (j) Z Z Z ?_));rintro _ rfl;refine A6 (A8 Z Z) Z (A6 (B6 Z Z) Z (A6 (B6 Z Z) Z (A6 (A9 Z Z) Z (A6 (A9 Z Z) Z (B0 ?_)))));refine k1 (k2 ?_);refine A7 (A6 (A8 Z Z) Z (A6 (I3 Z Z) Z (A6 (A8 Z Z) Z (B4 Z Z Z Z (fun g=>by rw[g];exact A8 Z Z) ?_))));refine B4 Z Z Z Z (fun g=>by rw[g];exact c7 Z Z) ?_;refine A6 (B9 Z (fun h=>by first | rfl | (rw[h];rfl)) (fun h=>by first | rfl | (rw[h];rfl))) Z ?_;refine A6 (A9 Z Z) Z (B0 ?_);refine k1 (G5 ?_);exact C0 (rs:=[F3 true]) (H6 rfl rfl rfl) rfl
theorem eG(a b:UInt8):decide ((a.toNat:Int)≠(b.toNat:Int))=decide (a≠b):=by
 by_cases h:a=b
 ·subst h;simp
 ·have:(a.toNat:Int)≠(b.toNat:Int):=fun e=>h (UInt8.toNat_inj.1 (by omega));rw[A2 this,A2 h]
theorem ZK(c:UInt8):decide ((c.toNat:Int)≠32)=decide (c≠32):=eG c 32
theorem QM(c:UInt8):decide ((c.toNat:Int)≠45)=decide (c≠45):=eG c 45
theorem QN(c:UInt8):decide ((c.toNat:Int)≠43)=decide (c≠43):=eG c 43
theorem QO(b:Bool):(!b)=decide (b=false):=by cases b<;>rfl
theorem HN(b:List PatchLine)(n:Nat)(h:n<b.length):Z8 (b.take (n+1))=(if Z8 (b.take n)=true then true else decide (b[n].Kind≠32)):=by
 unfold Z8;rw[A55 h,List.any_append];cases (b.take n).any _<;>simp
end Go.Proofs.YtgkjogphmmoakaaGreatDoor
