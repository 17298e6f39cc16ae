/- Walks of the program's functions. -/
import Derived.Test.YtbflhoahmmfkmaaGreatDoorFb
set_option linter.all false
namespace Go.Proofs.YtbflhoahmmfkmaaGreatDoor
open Go Go.AL
set_option maxRecDepth 100000
set_option maxHeartbeats 1000000
theorem five{p:Nat->Prop}(a:p 0)(b:p 1)(c:p 2)(d:p 3)(e:p 4):∀i,i<5->p i
 | 0,_=>a
 | 1,_=>b
 | 2,_=>c
 | 3,_=>d
 | 4,_=>e
theorem U3{K:List Nat}{T rest:Obs}{k:Nat}{o:Ob}(a:C2 rest k=none)(h:∀j x,K1 K j=false->C2 rest j=some x->C2 T j=some x):∀j x,K1 K j=false->C2 rest j=some x->C2 ((k,o)::T) j=some x:=by
 intro j x c b;have:k≠j:=fun e=>by rw[e,b]at a;cases a
 rw[C5 this];exact h j x c b
def G6(ks:List Nat)(ob:Obs):Obs:=ks.foldl (fun f k=>Obs.forget k f) ob
theorem O0{k:Nat}:∀{ks:List Nat} {ob:Obs},C2 ob k=none->C2 (G6 ks ob) k=none
 | [],_,h=>h
 | q::ks,ob,h=>O0 (ks:=ks) (ob:=Obs.forget q ob) (by rw[I6,h];rfl)
theorem iF(k:Nat):∀(a:List Nat) (ob:Obs),G6 a (Obs.forget k ob)=Obs.forget k (G6 a ob)
 | [],_=>rfl
 | q::a,ob=>by
  show G6 a (Obs.forget q (Obs.forget k ob))=Obs.forget k (G6 a (Obs.forget q ob));rw[lY q k,iF k a]
theorem y3{k:Nat}:∀{a:List Nat} {ob:Obs},K1 a k=true->Obs.forget k (G6 a ob)=G6 a ob
 | [],ob,h=>by cases h
 | q::a,ob,h=>by
  show Obs.forget k (G6 a (Obs.forget q ob))=G6 a (Obs.forget q ob);by_cases b:k=q
  ·subst b;rw[iF,Obs.forget_idem]
  ·have c:K1 a k=true:=by
    rw[vH]at h ⊢;rcases RN.1 h with h | h
    ·exact absurd h b
    ·exact h
   exact y3 c
theorem R7{K b:List Nat}{T ob:Obs}(k:Nat)(e:K1 b k=true)(h:∀j x,K1 K j=false->C2 (G6 b ob) j=some x->C2 T j=some x) :
  ∀j x,K1 K j=false->C2 (G6 b ob) j=some x->C2 (Obs.forget k T) j=some x:=by
 intro j x d a;rw[<-y3 e,I6]at a;rw[I6];cases c:C2 (G6 b ob) j with
 | none=>rw[c]at a;cases a
 | some y=>rw[c]at a;rw[h j y d c];exact a
abbrev PN:AL.State:=⟨4,⟨0,0,0,0⟩,0,0⟩
abbrev PO:AL.State:=⟨3,⟨0,0,0,0⟩,0,0⟩
abbrev OA:AL.State:=⟨0,⟨0,8589934592,0,0⟩,2,0⟩
abbrev QI:AL.State:=⟨1,⟨0,0,0,0⟩,3,1⟩
abbrev PP:AL.State:=⟨2,⟨0,0,0,0⟩,4,0⟩
theorem rM:FnOk Tryz.prog 74 [] (fun rs=>rs=[HV formsL]):=by
 refine FnOk.intro Tryz.func74 (by decide) Z Z Z Z ?_;refine k2 ?_;refine A7 (A6 (K7 _ 6 pI) Z (B0 ?_));refine k1 (k2 ?_);refine A7 (A6 (H0 Z) Z (A6 (H0 Z) Z (A6 (H0 Z) Z (A6 (H0 Z) Z (A6 (H0 Z) Z (A6 (H0 Z) Z (A6 (H0 Z) Z (A6 (H0 Z) Z (A6 (H0 Z) Z (A6 (H0 Z) Z (A6 (D9 (c:=pI) (ys:=formsL) (D4 Z Z Z Z (D4 Z Z Z Z (D4 Z Z Z Z (D4 Z Z Z Z (D4 Z Z Z Z (D4 Z Z Z Z (D4 Z Z Z Z (D4 Z Z Z Z (D4 Z Z Z Z (D4 Z Z Z Z H3)))))))))) Z Z Z) Z (A6 (A9 Z Z) Z (B0 ?_)))))))))))));refine k1 (J0 ?_);exact C0 (rs:=[HV formsL]) (H7 rfl rfl rfl) rfl
abbrev HA(l:List Nat):List TC:=l.map fun o=>.ref 6 o
abbrev DD(l:List Nat):Ob:=.growT 141 l.length 1 (HA l)
theorem iG{gf:Fr}{ob:Obs}(f:CForm)(z:C2 ob 751=none)(A:C2 ob 752=none) :
  AL.Met Tryz.prog 75 [(HU f).s1,.one (.ref 6 0)] gf ob [751,752] (fun rs ob'=>rs=[.one (.mut 751)]/\ob'=(751,DD (R9 f))::G6 [751,752] ob):=by
 obtain⟨q,d⟩:∃l:List Nat,l=if f.b=true then [1,2] else [1]:=⟨_,rfl⟩
 have w:R9 f=if f.c=true then q++[3] else q:=by rw[d];unfold R9;cases f.b<;>cases f.c<;>rfl
 have B:q.length<=2:=by rw[d];split<;>decide
 have x:C2 (G6 [751,752] ob) 751=none:=O0 z;have a:C2 (G6 [751,752] ob) 752=none:=O0 A;refine AL.Met.introH Tryz.func75 (by decide) rfl rfl rfl (fun p=>?_);refine I9 (Sees.forget 751) ?_;refine I9 (Sees.forget 752) ?_;refine I9 (QK (gf':=C9 [751,752] gf) (l:=[(0,.s (HU f).s1),(1,.s (.one (.ref 6 0)))]) (ob':=G6 [751,752] ob) ⟨B4 rfl,B4 rfl,trivial⟩ (I2 p) (by repeat (first | exact E0 | refine tail_drop rfl ?_ | refine E1 rfl ?_ | refine N4 _ rfl ?_)) (fun _ _ h=>h)) ?_;refine k2 ?_;refine A7 (A6 (GO Z Z Z) Z (A6 (A9 Z Z) Z (B0 ?_)));refine k1 (k2 ?_);refine A7 (A6 (A8 Z Z) Z (A6 (C1 Z) Z (A6 (B1 Z) Z (D3 (CX 751 Z Z Z Z x Z) Z (A6 (A9 Z Z) Z (B0 ?_))))));refine k1 (k2 (k2 ?_));refine A7 (A6 (F6 Z) Z (A6 (C3 Z Z) Z (B0 ?_)));refine k1 ?_;refine iB ([(1,.s (.one (.ref 6 0))),(2,.s (.one (.eref Unit 6 (fun _ j=>(cellsOf pI f 0 6).getD j (.v undef)) () 0))),(5,.s (.one (.mut 751)))]++C9 [751,752] gf) ([(751,DD q)]++G6 [751,752] ob) ?_ ?_
 ·skip;refine B7 rfl (fun k=>?_) (fun k=>?_)
  ·have hb:f.b=true:=k;rw[A4 hb]at d;subst d;skip;refine A7 (A6 (A8 Z Z) Z (A6 (A8 Z Z) Z (A6 (C1 Z) Z (A6 (B1 Z) Z (D3 (nZ 752 Z Z Z Z (by rw[C5 (by decide),I6,a];rfl) Z) Z ?_)))));refine D3 (aS Z Z Z Z (by decide) Z) Z (A6 (A9 Z Z) Z (B0 ?_));refine k1 ?_;exact QK ⟨B4 rfl,B4 rfl,B4 rfl,trivial⟩ (I2 p) (by repeat (first | exact E0 | refine tail_drop rfl ?_ | refine E1 rfl ?_ | refine N4 _ rfl ?_)) (M9 (L:=[(751,_)]) ⟨rfl,trivial⟩ (by repeat (first | exact K2 | refine K9 rfl ?_ | refine U3 a ?_ | refine R7 _ rfl ?_)))
  ·have hb:f.b=false:=k;rw[A5 (by rw[hb];decide)]at d;subst d;refine k5 (k1 ?_);exact QK ⟨B4 rfl,B4 rfl,B4 rfl,trivial⟩ (I2 p) (by repeat (first | exact E0 | refine tail_drop rfl ?_ | refine E1 rfl ?_ | refine N4 _ rfl ?_)) (M9 (L:=[(751,_)]) ⟨rfl,trivial⟩ (by repeat (first | exact K2 | refine K9 rfl ?_ | refine U3 a ?_ | refine R7 _ rfl ?_)))
 refine k2 (k2 ?_);refine A7 (A6 (F6 Z) Z (A6 (C3 Z Z) Z (B0 ?_)));refine k1 ?_;refine iB ([(5,.s (.one (.mut 751)))]++C9 [751,752] gf) ([(751,DD (R9 f))]++G6 [751,752] ob) ?_ ?_
 ·skip;refine B7 rfl (fun k=>?_) (fun k=>?_)
  ·have hb:f.c=true:=k;rw[A4 hb]at w;rw[w];have y:q=[1]\/q=[1,2]:=by
    rw[d];split
    ·exact .inr rfl
    ·exact .inl rfl
   clear d w B;rcases y with rfl | rfl
   ·skip;refine A7 (A6 (A8 Z Z) Z (A6 (A8 Z Z) Z (A6 (C1 Z) Z (A6 (B1 Z) Z (D3 (nZ 752 Z Z Z Z a Z) Z (D3 (aS Z Z Z Z (by decide) Z) Z (A6 (A9 Z Z) Z (B0 ?_))))))));refine k1 ?_;exact QK ⟨B4 rfl,trivial⟩ (I2 p) (by repeat (first | exact E0 | refine tail_drop rfl ?_ | refine E1 rfl ?_ | refine N4 _ rfl ?_)) (M9 (L:=[(751,_)]) ⟨rfl,trivial⟩ (by repeat (first | exact K2 | refine K9 rfl ?_ | refine U3 a ?_ | refine R7 _ rfl ?_)))
   ·skip;refine A7 (A6 (A8 Z Z) Z (A6 (A8 Z Z) Z (A6 (C1 Z) Z (A6 (B1 Z) Z (D3 (nZ 752 Z Z Z Z a Z) Z (D3 (aS Z Z Z Z (by decide) Z) Z (A6 (A9 Z Z) Z (B0 ?_))))))));refine k1 ?_;exact QK ⟨B4 rfl,trivial⟩ (I2 p) (by repeat (first | exact E0 | refine tail_drop rfl ?_ | refine E1 rfl ?_ | refine N4 _ rfl ?_)) (M9 (L:=[(751,_)]) ⟨rfl,trivial⟩ (by repeat (first | exact K2 | refine K9 rfl ?_ | refine U3 a ?_ | refine R7 _ rfl ?_)))
  ·have hb:f.c=false:=k;rw[A5 (by rw[hb];decide)]at w;rw[w];refine k5 (k1 ?_);exact QK ⟨B4 rfl,trivial⟩ (I2 p) (by repeat (first | exact E0 | refine tail_drop rfl ?_ | refine E1 rfl ?_ | refine N4 _ rfl ?_)) (M9 (L:=[(751,_)]) ⟨rfl,trivial⟩ (by repeat (first | exact K2 | refine K9 rfl ?_ | refine U3 a ?_ | refine R7 _ rfl ?_)))
 refine k2 ?_;refine A7 (A6 (A8 Z Z) Z (A6 (A9 Z Z) Z (B0 ?_)));refine k1 (J0 ?_);exact M6 (u5 rfl rfl) (by repeat (first | exact E0 | refine tail_drop rfl ?_ | refine E1 rfl ?_ | refine N4 _ rfl ?_)) (M9 (L:=[(751,_)]) ⟨rfl,trivial⟩ (by repeat (first | exact K2 | refine K9 rfl ?_ | refine U3 a ?_ | refine R7 _ rfl ?_))) ⟨rfl,rfl⟩
theorem DE(c:Cmd)(Q:c.Text.length<=1048576):FnOk Tryz.prog 31 [bI c] (fun rs=>rs=[G8 (dI c).1,E7 (dI c).2]):=by
 refine FnOk.intro Tryz.func31 (by decide) Z Z Z Z ?_;refine k2 ?_;refine A7 (D3 (bU 1 Z Z Z) Z (A6 (A9 Z Z) Z (A6 (A9 Z Z) Z (B0 ?_))));refine k1 (k2 (k2 ?_));refine A7 (C7 (rM) Z Z Z ?_);rintro _ rfl;refine A6 (E8 Z (.pure _ _ _ _)) Z (A6 (A8 Z Z) Z (B0 ?_));refine k1 (k3 ?_);refine E3 (X:=Nat) (fun i=>([(1,.s (.one (.ref 1 0))),(10,E2 CForm 6 pI formsL),(11,C8 10),(12,C8 i)],[(1,.box (iX c))])) (fun i=>i<=10/\dI c=xD c (formsL.drop i)) (fun i=>10-i) 0 ⟨Nat.zero_le _,rfl⟩ (Sees.of ⟨B4 rfl,B4 rfl,B4 rfl,B4 rfl,trivial⟩ ⟨rfl,trivial⟩) ?_;rintro i ⟨hi,A⟩;dsimp only at hi A ⊢;refine k2 ?_;refine A7 (A6 (F3 Z Z) Z (B0 ?_));refine k1 (k2 ?_);refine B7 rfl (fun d=>?_) (fun d=>?_);rotate_left
 ·have S:i=10:=by have:=A1 d;omega
  subst S;refine k6 (k2 ?_);refine A7 (A6 (A9 Z Z) Z (A6 (A9 Z Z) Z (B0 ?_)));refine k1 (J0 ?_);exact C0 (rs:=[G8 [],E7 2]) (Z7 rfl rfl rfl rfl rfl) (by rw[A];rfl)
 have D:i<formsL.length:=by have h:=A0 d;show i<10;omega
 obtain⟨f,H⟩:∃f,f=formsL[i]:=⟨_,rfl⟩
 have hv:formsL[i]?=some f:=by rw[H];exact RG D
 have hw:=EI (SA hv);rw[RO D,<-H,xD]at A;refine k5 (k1 (k2 (k3 (k2 ?_))));refine A7 (A6 (B8 Z (.pure _ _ _ _) Z (by omega) hv) Z (A6 (G3 Z Z) Z (D3 (I5 5 Z) Z (F7 (C4 TySz.out Z Z Z Z Z Z) (B0 ?_)))));have y:((if decide (f.kind≠c.Kind)=true then true else !(f.dense == c.Dense))=true)↔(f.kind≠c.Kind\/f.dense≠c.Dense):=by cases f.dense<;>cases c.Dense<;>simp
 refine k1 (k2 (k2 ?_));refine A7 (A6 (B1 Z) Z (A6 (B2 Z Z Z) Z (A6 (B1 Z) Z (A6 (B2 Z Z Z) Z (A6 (P6 Z Z) Z (A6 (A8 Z Z) Z (B3 Z Z Z Z (fun g=>by rw[g];exact B1 Z) ?_)))))));refine B3 Z Z Z Z (fun g=>by rw[g];exact B2 Z Z Z) ?_;refine B3 Z Z Z Z (fun g=>by rw[g];exact B1 Z) ?_;refine B3 Z Z Z Z (fun g=>by rw[g];exact B2 Z Z Z) ?_;refine B3 Z Z Z Z (fun g=>by rw[g];exact IQ Z Z TyBool.out) ?_;refine A6 (B9 Z (fun h=>by first | rfl | (rw[h];rfl)) (fun h=>by first | rfl | (rw[h];rfl))) Z ?_;refine B0 ?_;refine k1 ?_;refine B7 rfl (fun d=>?_) (fun d=>?_)
 ·have E:f.kind≠c.Kind\/f.dense≠c.Dense:=y.1 d;rw[A4 E]at A;refine k6 (k7 (k8 Z (k1 ?_)));refine A7 (A6 (D2 Z Z (by omega)) Z (A6 (A8 Z Z) Z (B0 ?_)));refine k1 ?_;exact⟨i+1,⟨D,A⟩,by have:formsL.length=10:=rfl;omega,Sees.of ⟨B4 rfl,B4 rfl,B4 rfl,B4 rfl,trivial⟩ ⟨rfl,trivial⟩⟩
 have E:¬(f.kind≠c.Kind\/f.dense≠c.Dense):=fun h=>by rw[y.2 h]at d;cases d
 rw[A5 E]at A;refine Y4 [(1,.s (.one (.ref 1 0))),(5,.s (.one (.ref 5 0))),(10,E2 CForm 6 pI formsL),(11,C8 10),(12,C8 i)] [(1,.box (iX c)),(5,.box (HT f))] (Sees.of ⟨B4 rfl,B4 rfl,B4 rfl,B4 rfl,B4 rfl,trivial⟩ ⟨rfl,rfl,trivial⟩) ?_;refine k5 (k1 (k2 ?_));refine A7 (A6 (F4 Z Z Z) Z (D3 (I5 6 Z) Z (F7 (C4 TySz.out Z Z Z Z Z Z) (B0 ?_))));refine k1 (k2 ?_);refine A7 (A6 (B1 Z) Z (A6 (B2 Z Z Z) Z (A6 (A9 Z Z) Z (B0 ?_))));refine k1 (k2 (k2 ?_));refine A7 (A6 (F4 Z Z Z) Z (aE (iG f Z Z) Z Z Z ?_));rintro _ _ ⟨rfl,rfl⟩;refine A6 (vR Z Z) Z (A6 (A8 Z Z) Z (B0 ?_));refine k1 (k3 ?_);obtain⟨L,O⟩:∃L,L=R9 f:=⟨_,rfl⟩
 have P:=xB f;rw[<-O]at P ⊢;refine E3 (X:=Nat×Cmd×Str) (fun x=>([(5,.s (.one (.ref 5 0))),(6,.s (.one (.ref 6 0))),(7,O4 x.2.2),(32,.s (.one (.mut 751))),(33,C8 L.length),(34,C8 x.1)],[(5,.box (HT f)),(6,.box (iX x.2.1)),(751,DD L)])) (fun x=>x.1<=L.length/\x.2.2.length<=8+11*x.1/\x.2.1.Text=c.Text/\bJ L c f.word=bJ (L.drop x.1) x.2.1 x.2.2) (fun x=>L.length-x.1) (0,c,f.word) ⟨Nat.zero_le _,by dsimp only;omega,rfl,rfl⟩ (Sees.of ⟨B4 rfl,B4 rfl,B4 rfl,B4 rfl,B4 rfl,B4 rfl,trivial⟩ ⟨rfl,rfl,rfl,trivial⟩) ?_;rintro⟨j,k,s⟩ ⟨hj,hs,v,z⟩;dsimp only at hj hs v z ⊢;refine k2 ?_;refine A7 (A6 (F3 Z Z) Z (B0 ?_));refine k1 (k2 ?_);refine B7 rfl (fun d=>?_) (fun d=>?_)
 ·have C:j<L.length:=by have:=A0 d;omega
  obtain⟨o,Y⟩:∃o,o=L[j]:=⟨_,rfl⟩
  have M:L[j]?=some o:=by rw[Y];exact RG C
  have F:=CI (f:=f) (o:=o) (by rw[<-O];exact SA M);have B:=HW (c:=k) F;have V:(HA L)[((j:Nat):Int).toNat*1+0]?=some (.ref 6 o):=by rw[RI,Nat.mul_one,Nat.add_zero,SR,M];rfl
  have I:Nat.ble (o+1) 6=true:=by rcases F with rfl | rfl | rfl<;>rfl
  rw[RO C,<-Y,bJ]at z;refine k5 (k1 (k2 (k3 (k2 ?_))));refine A7 (A6 (cV Z Z Z (by omega) (by omega)) Z (A6 (rG Z Z V) Z (A6 (A9 Z Z) Z (B0 ?_))));refine k1 (k2 (k2 ?_));refine A7 (A6 (A8 Z Z) Z (A6 (C1 Z) Z (A6 (B2 Z Z (B)) Z (A6 (F3 Z Z) Z (A6 (A8 Z Z) Z (B3 Z Z Z Z (fun g=>by rw[g];exact A8 Z Z) ?_))))));refine B3 Z Z Z Z (fun g=>by rw[g];exact C1 Z) ?_;refine B3 Z Z Z Z (fun g=>by rw[g];exact B2 Z Z (B)) ?_;refine B3 Z Z Z Z (fun g=>by rw[g];exact S0 Z Z) ?_;refine A6 (B9 Z (fun h=>by first | rfl | (rw[h];rfl)) (fun h=>by first | rfl | (rw[h];rfl))) Z ?_;refine B0 ?_;refine k1 ?_;refine B7 rfl (fun d=>?_) (fun d=>?_)
  ·have G:k.get o<0\/2147483647<k.get o:=A0 (or_pick.symm.trans d);rw[A4 G]at z;refine k2 ?_;refine A7 (A6 (A9 Z Z) Z (A6 (A9 Z Z) Z (B0 ?_)));refine k1 (J0 (M7 (X3 (M7 (M7 (X3 (M7 (X3 (M7 (M7 (X3 (M7 ?_))))))))))));exact C0 (rs:=[G8 [],E7 2]) (Z7 rfl rfl rfl rfl rfl) (by rw[A];unfold mO;rw[<-O,z])
  have U:¬(k.get o<0\/2147483647<k.get o):=A1 (or_pick.symm.trans d);rw[A5 U]at z;have ab:=p8 (k.get o);refine k5 (k1 (k2 ?_));refine A7 (A6 (A8 Z Z) Z (A6 (A8 Z Z) Z (A6 (C1 Z) Z (A6 (B2 Z Z (B)) Z (C7 (fT (k.get o)) Z Z Z ?_)))));rintro _ rfl;refine A6 (M1 Z Z (by (simp;omega))) Z (A6 (M1 Z Z (by (simp;omega))) Z (A6 (A9 Z Z) Z (B0 ?_)));refine k1 ?_;refine A7 (A6 (A8 Z Z) Z (A6 (C1 Z) Z (F7 (C4 TySz.out Z Z Z Z Z (I)) (B0 ?_))));refine k4 (k1 ?_);refine A7 (A6 (D2 Z Z (by omega)) Z (A6 (A8 Z Z) Z (B0 ?_)));refine k1 ?_;refine⟨(j+1,k.put o 0,s++([32]++M4 (k.get o))),⟨C,?_,?_,z⟩,by dsimp only;omega,(by dsimp only;rw[<-xC 0 F];exact (Sees.of ⟨B4 rfl,B4 rfl,B4 rfl,B4 rfl,B4 rfl,B4 rfl,trivial⟩ ⟨rfl,rfl,rfl,trivial⟩))⟩
  ·dsimp only;simp only[RK,RJ,RP];omega
  ·dsimp only;rw[uN];exact v
 have T:j=L.length:=by have:=A1 d;omega
 rw[T,List.drop_length,bJ]at z;obtain⟨w,l⟩:∃w:Cmd,w=if f.text=true then { k with Text:=[] } else k:=⟨_,rfl⟩
 obtain⟨s2,q⟩:∃s2:Str,s2=if f.text=true then s++([32]++W5 k.Text) else s:=⟨_,rfl⟩
 have K:dI c=kN f w s2:=by
  rw[A];unfold mO;rw[<-O,z,l,q];dsimp only;split<;>rfl
 have ac:=wQ k.Text;have W:k.Text.length<=1048576:=by rw[v];exact Q
 refine k6 (k2 (k2 ?_));refine A7 (A6 (B1 Z) Z (A6 (B2 Z Z Z) Z (B0 ?_)));refine k1 ?_;refine iB [(5,.s (.one (.ref 5 0))),(6,.s (.one (.ref 6 0))),(7,O4 s2)] [(5,.box (HT f)),(6,.box (iX w))] ?_ ?_
 ·skip;refine B7 rfl (fun d=>?_) (fun d=>?_)
  ·have hb:f.text=true:=d;rw[A4 hb]at l q;subst l q;refine k2 ?_;refine A7 (A6 (A8 Z Z) Z (A6 (B1 Z) Z (A6 (B2 Z Z Z) Z (C7 (rJ k.Text (by rw[v];omega)) Z Z Z ?_))));rintro _ rfl;refine A6 (M1 Z Z (by (simp;omega))) Z (A6 (M1 Z Z (by (simp;omega))) Z (A6 (A9 Z Z) Z (B0 ?_)));refine k1 ?_;refine A7 (A6 (B1 Z) Z (F7 (C4 TySz.out Z Z Z Z Z Z) (B0 ?_)));refine k1 ?_;exact Sees.of ⟨B4 rfl,B4 rfl,B4 rfl,trivial⟩ ⟨rfl,rfl,trivial⟩
  ·have hb:f.text=false:=d;rw[A5 (by rw[hb];decide)]at l q;subst l q;refine k5 (k1 ?_);exact Sees.of ⟨B4 rfl,B4 rfl,B4 rfl,trivial⟩ ⟨rfl,rfl,trivial⟩
 refine k2 (k2 ?_);refine A7 (A6 (F4 Z Z Z) Z (A6 (B1 Z) Z (A6 (B2 Z Z Z) Z (A6 (B1 Z) Z (A6 (B2 Z Z Z) Z (A6 (H0 Z) Z (A6 (FU (HS w) (HS ⟨f.kind,0,0,0,f.dense,[]⟩) Z Z Z Z (MA w ⟨f.kind,0,0,0,f.dense,[]⟩)) Z (B0 ?_))))))));refine k1 ?_;refine B7 rfl (fun d=>?_) (fun d=>?_)
 ·have J:¬w=⟨f.kind,0,0,0,f.dense,[]⟩:=by simpa using d
  refine k2 ?_;refine A7 (A6 (A9 Z Z) Z (A6 (A9 Z Z) Z (B0 ?_)));refine k1 (J0 (M7 (X3 (M7 (M7 (X3 (M7 ?_)))))));exact C0 (rs:=[G8 [],E7 2]) (Z7 rfl rfl rfl rfl rfl) (by rw[K];unfold kN;rw[A5 J])
 ·have R:w=⟨f.kind,0,0,0,f.dense,[]⟩:=by simpa using d
  refine k5 (k1 (k2 ?_));refine A7 (A6 (A8 Z Z) Z (A6 (A9 Z Z) Z (A6 (A9 Z Z) Z (B0 ?_))));refine k1 (J0 (X3 (M7 (M7 (X3 (M7 ?_))))));exact C0 (rs:=[G8 s2,E7 0]) (Z7 rfl rfl rfl rfl rfl) (by rw[K];unfold kN;rw[A4 R])
theorem gD{s:Str}{i:Nat}(h:i<s.length):s[i]?=some (s.getD i 0):=by simp[h]
def iH(s:Str)(i:Nat):Bool:=decide ((i<s.length/\48<=(s.getD i 0).toNat)/\(s.getD i 0).toNat<=57)
theorem zJ(s:Str)(i:Nat):iH s i=match s[i]? with | some c=>c7 c | none=>false:=by
 unfold iH c7;by_cases h:i<s.length
 ·rw[gD h];simp[h]
 ·rw[SC (by omega)];simp[h]
theorem JH(s:Str)(i:Nat):(L8 (s.drop i)).length<=s.length-i:=by
 unfold L8;have:=(List.takeWhile_sublist c7 (l:=s.drop i)).length_le;rw[SH]at this;exact this
theorem o3{p:UInt8->Bool}:∀(s:Str) (k:Nat),k<=(s.takeWhile p).length->(match s[k]? with | some c=>p c | none=>false)=decide (k<(s.takeWhile p).length)
 | [],k,h=>by simp at h ⊢
 | c::r,0,h=>by by_cases a:p c=true<;>simp[List.takeWhile_cons,a]
 | c::r,k+1,h=>by
  by_cases a:p c=true
  ·rw[List.takeWhile_cons,A4 a,RJ]at h ⊢;have:=o3 (p:=p) r k (by omega);rw[List.getElem?_cons_succ,this];simp
  ·rw[List.takeWhile_cons,A5 a]at h;simp at h
theorem eX{p:UInt8->Bool}:∀(s:Str) (k:Nat),k<(s.takeWhile p).length->s[k]?=(s.takeWhile p)[k]?
 | [],k,h=>by simp at h
 | c::r,k,h=>by
  by_cases a:p c=true
  ·rw[List.takeWhile_cons,A4 a]at h ⊢;cases k with
   | zero=>rfl
   | succ k=>rw[List.getElem?_cons_succ,List.getElem?_cons_succ];exact eX (p:=p) r k (by simpa using h)
  ·rw[List.takeWhile_cons,A5 a]at h;simp at h
theorem rN(s:Str)(i k:Nat)(h:k<=(L8 (s.drop i)).length):iH s (i+k)=decide (k<(L8 (s.drop i)).length):=by
 rw[zJ,<-SO];exact o3 (s.drop i) k h
theorem DF{s:Str}{i k:Nat}(h:k<(L8 (s.drop i)).length):s[i+k]?=some ((L8 (s.drop i)).getD k 0)/\48<=((L8 (s.drop i)).getD k 0).toNat/\((L8 (s.drop i)).getD k 0).toNat<=57 /\
  aL ((L8 (s.drop i)).take (k+1))=10*aL ((L8 (s.drop i)).take k)+(((L8 (s.drop i)).getD k 0).toNat-48):=by
 have d:s[i+k]?=(L8 (s.drop i))[k]?:=by rw[<-SO];exact eX _ _ h
 have c:=gD h;have b:c7 ((L8 (s.drop i)).getD k 0)=true:=by
  have m:(L8 (s.drop i)).getD k 0∈(s.drop i).takeWhile c7:=SA c;exact List.all_eq_true.1 List.all_takeWhile _ m
 unfold c7 at b;have b:=A0 b;refine⟨by rw[d,c],b.1,b.2,?_⟩;obtain⟨j,f⟩:=List.getElem?_eq_some_iff.1 c;rw[SK j,sE,f]
theorem HB(n:Nat)(h:48<=n)(b:n<=57):IntKind.i64.wrap (IntKind.u8.wrap ((n:Int)-48))=((n-48:Nat):Int):=by
 have:∀k:Fin 10,IntKind.i64.wrap (IntKind.u8.wrap (((k.1+48:Nat):Int)-48))=((k.1:Nat):Int):=by decide
 have a:=this ⟨n-48,by omega⟩;dsimp only at a;rw[show n-48+48=n by omega]at a;exact a
def wG(s:Str)(i:Nat):List PV:=match dH (s.drop i) with
 | none=>[E7 0,E7 0,G5 false]
 | some (n,k)=>[E7 n,E7 ((i+k:Nat):Int),G5 true]
theorem rO(s:Str)(i:Nat):FnOk Tryz.prog 42 [G8 s,E7 i] (fun rs=>rs=[G5 (iH s i)]):=by
 refine FnOk.intro Tryz.func42 (by decide) Z Z Z Z ?_;refine k2 ?_;refine A7 (A6 (A9 Z Z) Z (B0 ?_));refine k1 (k2 ?_);refine A7 (A6 (A8 Z Z) Z (A6 (A8 Z Z) Z (A6 (M2 Z) Z (A6 (F3 Z Z) Z (A6 (A8 Z Z) Z (B3 Z Z Z Z (fun a=>by rw[a];exact A8 Z Z) ?_))))));refine B3 Z Z Z Z (fun a=>by rw[a];exact A8 Z Z) ?_;refine B3 Z Z Z Z (fun a=>by have b:=a;(try simp at b);rw[a];exact O1 Z Z (by omega) (gD (by omega))) ?_;refine B3 Z Z Z Z (fun a=>by rw[a];exact r5 Z Z) ?_;refine A6 (B9 Z (fun h=>by first | rfl | (rw[h];rfl)) (fun h=>by first | rfl | (rw[h];rfl))) Z ?_;refine A6 (A8 Z Z) Z (B3 Z Z Z Z (fun a=>by rw[a];exact A8 Z Z) ?_);refine B3 Z Z Z Z (fun a=>by rw[a];exact A8 Z Z) ?_;refine B3 Z Z Z Z (fun a=>by have b:=a;(try simp at b);rw[a];exact O1 Z Z (by omega) (gD (by omega))) ?_;refine B3 Z Z Z Z (fun a=>by rw[a];exact kY Z Z) ?_;refine A6 (B9 Z (fun h=>by first | rfl | (rw[h];rfl)) (fun h=>by first | rfl | (rw[h];rfl))) Z ?_;refine A6 (A9 Z Z) Z (B0 ?_);refine k1 (J0 ?_);refine C0 (H7 Z Z Z) ?_;simp only[and_pick];unfold iH
 congr 4
 congr 1
 simp;omega
theorem fU(s:Str)(i:Nat)(Y:i<=s.length)(hs:s.length<=1073741824):FnOk Tryz.prog 15 [G8 s,E7 i] (fun rs=>rs=wG s i):=by
 obtain⟨f,j⟩:∃f,f=L8 (s.drop i):=⟨_,rfl⟩
 have M:=JH s i;have I:=rN s i 0 (Nat.zero_le _);rw[Nat.add_zero]at I;rw[<-j]at M I;refine FnOk.intro Tryz.func15 (by decide) Z Z Z Z ?_;refine k2 ?_;refine A7 (A6 (A9 Z Z) Z (A6 (A9 Z Z) Z (A6 (A9 Z Z) Z (B0 ?_))));refine k1 (k2 (k2 ?_));refine A7 (A6 (A8 Z Z) Z (A6 (F3 Z Z) Z (A6 (A8 Z Z) Z (B3 Z Z Z Z (fun b=>by rw[b];exact A8 Z Z) ?_))));refine B3 Z Z Z Z (fun b=>by rw[b];exact A8 Z Z) ?_;refine B3 Z Z Z Z (fun b=>by have C:=b;(try simp at C);rw[b];exact K4 (rO s i) Z Z) ?_;refine B3 Z Z Z Z (fun b=>by rw[b];exact M8 Z) ?_;refine A6 (B9 Z (fun h=>by first | rfl | (rw[h];rfl)) (fun h=>by first | rfl | (rw[h];rfl))) Z ?_;refine B0 ?_;rw[I];refine k1 ?_;by_cases P:f.length=0
 ·refine B7 rfl (fun w=>?_) (fun w=>?_);rotate_left
  ·exfalso;revert w;simp[P]
  refine k2 ?_;refine A7 (A6 (A9 Z Z) Z (A6 (A9 Z Z) Z (A6 (A9 Z Z) Z (B0 ?_))));refine k1 (J0 (M7 ?_));refine C0 (rs:=[E7 0,E7 0,G5 false]) (IT Z Z Z Z Z Z Z) ?_;unfold wG dH;rw[<-j,A4 (.inl (List.length_eq_zero_iff.1 P))]
 refine B7 rfl (fun w=>?_) (fun w=>?_)
 ·exfalso;revert w;simp[show 0<f.length by omega]
 refine k5 (k1 (k2 ?_));refine A7 (A6 (A8 Z Z) Z (A6 (A9 Z Z) Z (A6 (A9 Z Z) Z (B0 ?_))));refine k1 (k2 (k3 ?_));refine E3 (X:=Nat) (fun k=>([(0,O4 s),(1,C8 i),(7,C8 ((min (aL (f.take k)) 2147483648:Nat):Int)),(8,C8 ((i+k:Nat):Int))],[])) (fun k=>k<=f.length) (fun k=>f.length-k) 0 (Nat.zero_le _) (Sees.of ⟨B4 rfl,B4 rfl,B4 rfl,B4 rfl,trivial⟩ trivial) ?_;intro k R;dsimp only at R ⊢;have y:=rN s i k (by rw[<-j];exact R);rw[<-j]at y;refine k2 (k2 ?_);refine A7 (A6 (A8 Z Z) Z (A6 (A8 Z Z) Z (C7 (rO s (i+k)) Z Z Z ?_)));rintro _ rfl;refine B0 ?_;rw[y];refine k1 ?_;refine B7 rfl (fun w=>?_) (fun w=>?_)
 ·have A:k<f.length:=A0 w;obtain⟨g1,F,G,H⟩:=DF (s:=s) (i:=i) (k:=k) (by rw[<-j];exact A);rw[<-j]at g1 F G H;obtain⟨c,U⟩:∃c,c=f.getD k 0:=⟨_,rfl⟩
  rw[<-U]at g1 F G H;obtain⟨v,O⟩:∃v,v=min (aL (f.take k)) 2147483648:=⟨_,rfl⟩
  have V:v<=2147483648:=by omega
  have B:min (aL (f.take (k+1))) 2147483648=min (10*v+(c.toNat-48)) 2147483648:=by rw[H];omega
  rw[<-O];have z:=HB c.toNat F G;refine k5 (k1 (k2 (k3 ?_)));refine A7 (A6 (A8 Z Z) Z (A6 (bS Z Z (by omega)) Z (A6 (A8 Z Z) Z (A6 (A8 Z Z) Z (A6 (O1 Z Z (by omega) g1) Z (A6 (BG Z Z) Z (A6 (R2 Z) Z (A6 (D2 Z Z (by (rw[z];omega))) Z ?_))))))));refine A6 (BH Z Z) Z (A6 (A9 Z Z) Z (B0 ?_));refine k4 (k1 ?_);refine A7 (A6 (A8 Z Z) Z (A6 (D2 Z Z (by omega)) Z (A6 (A9 Z Z) Z (B0 ?_))));refine k1 ?_;refine⟨k+1,A,by omega,?_⟩;rw[B];refine Sees.of ⟨⟨_,rfl,.same _⟩,⟨_,rfl,.same _⟩,⟨_,rfl,.eq ?_⟩,⟨_,rfl,.eq ?_⟩,trivial⟩ trivial
  ·rw[z]
   congr 6
   split<;>omega
  ·congr 6
 ·have L:k=f.length:=by have:¬k<f.length:=A1 w;omega
  subst L;rw[RS];have D:i<s.length:=by omega
  refine k6 (k2 (k2 ?_));refine A7 (A6 (A8 Z Z) Z (A6 (S0 Z Z) Z (A6 (A8 Z Z) Z (B3 Z Z Z Z (fun b=>by rw[b];exact A8 Z Z) ?_))));refine B3 Z Z Z Z (fun b=>by rw[b];exact A8 Z Z) ?_;refine B3 Z Z Z Z (fun b=>by have C:=b;(try simp at C);rw[b];exact O1 Z Z (by omega) (gD D)) ?_;refine B3 Z Z Z Z (fun b=>by rw[b];exact J4 Z Z) ?_;refine B3 Z Z Z Z (fun b=>by rw[b];exact A8 Z Z) ?_;refine Y0 Z Z Z (.gd (.val _)) Z (fun b=>by obtain⟨p,u⟩:=aQ b;(try rw[p]);(try rw[u]);exact A8 Z Z) ?_;refine Y0 Z Z Z (.gd (.val _)) Z (fun b=>by obtain⟨p,u⟩:=aQ b;(try rw[p]);(try rw[u]);exact A8 Z Z) ?_;refine Y0 Z Z Z (.gd (.val _)) Z (fun b=>by have C:=b;(try simp at C);obtain⟨p,u⟩:=aQ b;(try rw[p]);(try rw[u]);exact D2 Z Z (by omega)) ?_;refine Y0 Z Z Z (.gd (.val _)) Z (fun b=>by obtain⟨p,u⟩:=aQ b;(try rw[p]);(try rw[u]);exact S0 Z Z) ?_;refine B3 Z Z Z Z (fun b=>by rw[b];exact B9 Z (fun h=>by first | rfl | (rw[h];rfl)) (fun h=>by first | rfl | (rw[h];rfl))) ?_;refine A6 (B9 Z (fun h=>by first | rfl | (rw[h];rfl)) (fun h=>by first | rfl | (rw[h];rfl))) Z ?_;refine B0 ?_;refine k1 ?_;have K:(s.drop i).head?=some (s.getD i 0):=by rw[List.head?_drop,gD D]
  simp only[and_pick,or_pick];have x:(L8 (s.drop i)=[]\/((s.drop i).head?=some 48/\1<(L8 (s.drop i)).length)\/2147483647<aL (L8 (s.drop i)))↔(2147483647<((min (aL f) 2147483648:Nat):Int)\/(((s.getD i 0).toNat:Int)=48/\(i:Int)+1<((i+f.length:Nat):Int))):=by
   rw[<-j,K];have S:f≠[]:=fun e=>P (by rw[e];rfl);have T:(some (s.getD i 0)=some 48)↔((s.getD i 0).toNat:Int)=48:=by
    rw[Option.some.injEq,<-UInt8.toNat_inj];have:(48:UInt8).toNat=48:=rfl;omega
   simp only[S,false_or,T];omega
  refine B7 rfl (fun w=>?_) (fun w=>?_)
  ·have E:=A0 w;refine k2 ?_;refine A7 (A6 (A9 Z Z) Z (A6 (A9 Z Z) Z (A6 (A9 Z Z) Z (B0 ?_))));refine k1 (J0 (M7 ?_));refine C0 (rs:=[E7 0,E7 0,G5 false]) (IT Z Z Z Z Z Z Z) ?_;unfold wG dH;rw[A4 (x.2 (by first | exact E | simpa using E))]
  ·have E:=A1 w;have J:¬(L8 (s.drop i)=[]\/((s.drop i).head?=some 48/\1<(L8 (s.drop i)).length)\/2147483647<aL (L8 (s.drop i))):=fun Q=>E (by first | exact x.1 Q | simpa using x.1 Q);refine k5 (k1 (k2 ?_));refine A7 (A6 (A8 Z Z) Z (A6 (A8 Z Z) Z (A6 (A9 Z Z) Z (A6 (A9 Z Z) Z (A6 (A9 Z Z) Z (B0 ?_))))));refine k1 (J0 ?_);refine C0 (rs:=[E7 ((min (aL f) 2147483648:Nat):Int),E7 ((i+f.length:Nat):Int),G5 true]) (IT Z Z Z Z Z Z Z) ?_;unfold wG dH;rw[A5 J,<-j];have W:aL f<=2147483647:=by
    rw[<-j]at J;by_cases O:aL f<=2147483647
    ·exact O
    ·exact absurd (.inr (.inr (by omega))) J
   rw[show min (aL f) 2147483648=aL f by omega]
theorem jX{s:Str}{i n k:Nat}(h:dH (s.drop i)=some (n,k)):wG s i=[E7 n,E7 ((i+k:Nat):Int),G5 true]:=by unfold wG;rw[h]
theorem DG{s:Str}{i:Nat}(h:dH (s.drop i)=none):wG s i=[E7 0,E7 0,G5 false]:=by unfold wG;rw[h]
abbrev wH(s:Str)(i:Nat):Ob:=.box [.p (.v (.string ⟨s.toArray⟩)),.p (.v (.int .i64 (i:Int)))]
abbrev QJ(b:Bool):S1:=.one (.p (.v (.bool b)))
def KR(c:UInt8):Prop:=48<=c.toNat/\c.toNat<=55
def wI(s:Str)(i q:Nat):Prop:=i+q<s.length/\KR (s.getD (i+q) 0)
instance (s:Str) (i q:Nat):Decidable (wI s i q):=by unfold wI KR;exact inferInstance
theorem LM{b:Nat}{x y:Ob}{ob:Obs}:∀k o,C2 ((b,x)::ob) k=some o->C2 ((b,x)::(b,y)::ob) k=some o:=by
 intro k o a;by_cases c:b=k
 ·subst c;rw[E5]at a ⊢;exact a
 ·rw[C5 c]at a ⊢;rw[C5 c];exact a
theorem tR{p:UInt8->Bool}(s:Str)(i:Nat):((s.drop i).takeWhile p).length<=s.length-i:=by
 have:=(List.takeWhile_sublist p (l:=s.drop i)).length_le;rw[SH]at this;exact this
theorem cY{p:UInt8->Bool}:∀(s:Str),s.take (s.takeWhile p).length=s.takeWhile p
 | []=>rfl
 | c::r=>by
  by_cases a:p c=true
  ·rw[List.takeWhile_cons,A4 a,RJ,List.take_succ_cons,cY r]
  ·rw[List.takeWhile_cons,A5 a];rfl
theorem DH{gf:Fr}{ob:Obs}(s:Str)(i:Nat)(w:Str)(J:i<s.length)(O:s.length<=16777216)(m:(s.drop i).takeWhile N1=w)(v:w≠[])(F:C2 ob 705=some (wH s i)) :
  AL.Met Tryz.prog 40 [.one (.ref 705 0)] gf ob [] (fun rs ob'=>rs=[(G8 w).s1,QJ true]/\ob'=(705,wH s (i+w.length))::ob):=by
 have K:=tR (p:=N1) s i;rw[m]at K;have B:w.all N1=true:=by rw[<-m];exact List.all_takeWhile
 have q:¬(s.getD i 0).toNat=34:=by
  intro H;have D:=o3 (p:=N1) (s.drop i) 0 (Nat.zero_le _);rw[m,SO,Nat.add_zero,gD J]at D;have G:N1 (s.getD i 0)=true:=by
   have A:N1 (s.getD i 0)=decide (0<w.length):=D;rw[A];exact A2 (List.length_pos_iff.2 v)
  have M:=A0 G;omega
 refine AL.Met.introH Tryz.func40 (by decide) rfl rfl rfl (fun y=>?_);refine I9 (QK (l:=[(0,.s (.one (.ref 705 0)))]) (ob':=(705,wH s i)::ob) ⟨B4 rfl,trivial⟩ y (by repeat (first | exact E0 | refine E1 rfl ?_)) (M9 (L:=[(705,_)]) ⟨F,trivial⟩ K2)) ?_;refine k2 ?_;refine A7 (A6 (A9 Z Z) Z (A6 (A9 Z Z) Z (B0 ?_)));refine k1 (k2 ?_);refine A7 (A6 (A8 Z Z) Z (A6 (C1 Z) Z (A6 (B1 Z) Z (A6 (B2 Z Z Z) Z (A6 (A9 Z Z) Z (B0 ?_))))));refine k1 (k2 ?_);refine A7 (A6 (A9 Z Z) Z (B0 ?_));refine k1 (k2 (k2 ?_));refine A7 (A6 (A8 Z Z) Z (A6 (A8 Z Z) Z (A6 (C1 Z) Z (A6 (B1 Z) Z (A6 (B2 Z Z Z) Z (A6 (M2 Z) Z (A6 (F3 Z Z) Z (A6 (A8 Z Z) Z (B3 Z Z Z Z (fun b=>by rw[b];exact A8 Z Z) ?_)))))))));refine B3 Z Z Z Z (fun b=>by rw[b];exact C1 Z) ?_;refine B3 Z Z Z Z (fun b=>by rw[b];exact B1 Z) ?_;refine B3 Z Z Z Z (fun b=>by rw[b];exact B2 Z Z Z) ?_;refine B3 Z Z Z Z (fun b=>by rw[b];exact A8 Z Z) ?_;refine B3 Z Z Z Z (fun b=>by have q:=b;(try simp at q);rw[b];exact O1 Z Z (by omega) (gD (by omega))) ?_;refine B3 Z Z Z Z (fun b=>by rw[b];exact J4 Z Z) ?_;refine A6 (B9 Z (fun h=>by first | rfl | (rw[h];rfl)) (fun h=>by first | rfl | (rw[h];rfl))) Z ?_;refine B0 ?_;simp only[and_pick,RI];refine k1 ?_;refine B7 rfl (fun u=>?_) (fun u=>?_)
 ·exfalso;have:=A0 u;omega
 refine k2 (k3 ?_);refine E3 (X:=Nat) (fun k=>([(0,.s (.one (.ref 705 0))),(4,C8 i)]++gf,(705,wH s (i+k))::ob)) (fun k=>k<=w.length) (fun k=>w.length-k) 0 (Nat.zero_le _) ?_ ?_
 ·exact QK ⟨B4 rfl,B4 rfl,trivial⟩ y (by repeat (first | exact E0 | refine E1 rfl ?_)) (fun _ _ h=>h)
 intro k C;dsimp only at C ⊢;have d:=o3 (p:=N1) (s.drop i) k (by rw[m];exact C);rw[m,SO]at d;obtain⟨c,I⟩:∃c,c=s.getD (i+k) 0:=⟨_,rfl⟩
 have E:i+k<s.length->s[i+k]?=some c:=fun h=>by rw[I];exact gD h
 have j:(if decide (((i+k:Nat):Int)<(s.length:Int))=true then N1 c else false)=decide (k<w.length):=by
  rw[<-d];by_cases g:i+k<s.length
  ·rw[E g,A4 (A2 (by omega))]
  ·rw[SC (by omega),A5 (by simp;omega)]
 refine k2 (k2 ?_);refine F1 (by kernel_rfl) (by kernel_rfl) (B6 (A8 Z Z) Z Z (B6 (C1 Z) Z Z (B6 (B1 Z) Z Z (B6 (B2 Z Z Z) Z Z (B6 (A8 Z Z) Z Z (B6 (C1 Z) Z Z (B6 (B1 Z) Z Z (B6 (B2 Z Z Z) Z Z (B6 (M2 Z) Z Z (B6 (F3 Z Z) Z Z (B6 (A8 Z Z) Z Z (D7 Z Z (fun b=>by rw[b];exact A8 Z Z) Z Z ?_))))))))))));refine D7 Z Z (fun b=>by rw[b];exact C1 Z) Z Z ?_;refine D7 Z Z (fun b=>by rw[b];exact B1 Z) Z Z ?_;refine D7 Z Z (fun b=>by rw[b];exact B2 Z Z Z) Z Z ?_;refine D7 Z Z (fun b=>by rw[b];exact A8 Z Z) Z Z ?_;refine D7 Z Z (fun b=>by rw[b];exact C1 Z) Z Z ?_;refine D7 Z Z (fun b=>by rw[b];exact B1 Z) Z Z ?_;refine D7 Z Z (fun b=>by rw[b];exact B2 Z Z Z) Z Z ?_;refine D7 Z Z (fun b=>by have q:=b;(try simp at q);rw[b];exact O1 Z Z (by omega) (E (by omega))) Z Z ?_;refine D7 Z Z (fun b=>by have q:=b;(try simp at q);rw[b];exact K4 (rI c) Z Z) Z Z ?_;refine B6 (B9 Z (fun h=>by first | rfl | (rw[h];rfl)) (fun h=>by first | rfl | (rw[h];rfl))) Z Z ?_;refine T3 ?_;rw[j];refine k1 ?_;refine B7 rfl (fun u=>?_) (fun u=>?_)
 ·have g:=A0 u;refine k5 (k1 (k3 ?_));refine A7 (A6 (A8 Z Z) Z (A6 (C1 Z) Z (A6 (B1 Z) Z (A6 (B2 Z Z Z) Z (A6 (D2 Z Z (by omega)) Z (A6 (C1 Z) Z (A6 (B1 Z) Z (F7 (C4 TySz.out Z Z Z Z Z Z) (B0 ?_)))))))));refine k4 (k1 ?_);exact⟨k+1,g,by omega,QK ⟨B4 rfl,B4 rfl,trivial⟩ y (by repeat (first | exact E0 | refine E1 rfl ?_)) LM⟩
 have z:k=w.length:=by have:=A1 u;omega
 subst z;refine k6 (k7 (k7 (k8 Z (k1 ?_))));refine F1 (by kernel_rfl) (by kernel_rfl) (B6 (A8 Z Z) Z Z (B6 (C1 Z) Z Z (B6 (B1 Z) Z Z (B6 (B2 Z Z Z) Z Z (B6 (A8 Z Z) Z Z (B6 (A8 Z Z) Z Z (B6 (C1 Z) Z Z (B6 (B1 Z) Z Z (B6 (B2 Z Z Z) Z Z (B6 (mW Z Z Z (by omega) (by omega) (by omega)) Z Z (B6 (A9 Z Z) Z Z (T3 ?_))))))))))));have x:(s.drop i).take (i+w.length-i)=w:=by
  rw[Nat.add_sub_cancel_left]
  conv=>rhs;rw[<-m]
  rw[<-m];exact cY _
 rw[RI,RI,x];refine k1 (k2 ?_);refine F1 (by kernel_rfl) (by kernel_rfl) (B6 (A8 Z Z) Z Z (B6 (A8 Z Z) Z Z (B6 (K4 (rJ w (by omega)) Z Z) Z Z (B6 (A8 Z Z) Z Z (B6 (C1 Z) Z Z (B6 (B1 Z) Z Z (B6 (B2 Z Z Z) Z Z (B6 (A8 Z Z) Z Z (B6 (A8 Z Z) Z Z (B6 (C1 Z) Z Z (B6 (B1 Z) Z Z (B6 (B2 Z Z Z) Z Z (B6 (mW Z Z Z (by omega) (by omega) (by omega)) Z Z (B6 (t8 Z Z) Z Z (B6 (A9 Z Z) Z Z (B6 (A9 Z Z) Z Z (T3 ?_)))))))))))))))));rw[RI,RI,x,xF v B];refine k1 (J0 ?_);exact M6 (BI rfl rfl rfl) (by repeat (first | exact E0 | refine E1 rfl ?_ | refine H4 _ ?_)) (fun _ _ h=>h) ⟨(by rw[A2 rfl];rfl),rfl⟩
theorem oE(d:List Str)(B:d≠[])(F:∀w∈d,w≠[]/\w.all N1=true)(P:(N2 d).length<=1048576) :
  FnOk Tryz.prog 13 [G8 (N2 d)] (fun rs=>rs=[bT d,G5 true]):=by
 obtain⟨s,q⟩:∃s,s=N2 d:=⟨_,rfl⟩
 have C:s≠[]:=by
  obtain⟨w,r,rfl⟩:=List.exists_cons_of_ne_nil B;have z:=xE w r;have L:=List.length_pos_iff.2 (F w (List.mem_cons_self ..)).1;intro e;rw[<-q,e]at z;simp only[RP]at z;omega
 rw[<-q]at P ⊢;refine FnOk.intro Tryz.func13 (by decide) Z Z Z Z ?_;refine k2 ?_;refine A7 (A6 (A9 Z Z) Z (A6 (A9 Z Z) Z (B0 ?_)));refine k1 (k2 (k2 ?_));refine A7 (A6 (A8 Z Z) Z (A6 (t8 Z Z) Z (B0 ?_)));refine k1 ?_;refine B7 rfl (fun j=>?_) (fun j=>?_)
 ·exact absurd (A0 j) C
 refine k5 (k1 (k2 ?_));refine A7 (A6 (A8 Z Z) Z (A6 (H0 Z) Z (D3 (bU 705 Z Z Z) Z (A6 (A9 Z Z) Z (B0 ?_)))));refine k1 (k2 ?_);refine A7 (A6 (A8 Z Z) Z (A6 (fO Z Z) Z (A6 (A9 Z Z) Z (B0 ?_))));refine k1 (k2 ?_);refine A7 (D3 (u0 850 _ O7 Z) Z (B0 ?_));refine k1 (k3 ?_);refine E3 (X:=Nat×Nat) (fun x=>([(0,O4 s),(4,.s (.one (.ref 705 0))),(5,.s (.one (.clo 40 [(705,0)] []))),(6,.s (.one (.buf 850 Str 1 O7 (d.take x.1))))],[(705,wH s x.2),(850,.spare (d.take x.1).length 1 9)])) (fun x=>x.1<d.length/\s.drop x.2=N2 (d.drop x.1)/\x.2<s.length) (fun x=>d.length-x.1) (0,0) ⟨List.length_pos_iff.2 B,by rw[List.drop_zero,List.drop_zero];exact q,List.length_pos_iff.2 C⟩ (Sees.of ⟨B4 rfl,B4 rfl,B4 rfl,B4 rfl,trivial⟩ ⟨rfl,rfl,trivial⟩) ?_;rintro⟨k,i⟩ ⟨G,v,M⟩;dsimp only at G v M ⊢;obtain⟨w,E⟩:∃w,w=d[k]:=⟨_,rfl⟩
 have N:d[k]?=some w:=by rw[E];exact RG G
 obtain⟨J,K⟩:=F w (SA N);rw[RO G,<-E]at v;have I:(s.drop i).takeWhile N1=w:=by rw[v];exact EJ K _
 have D:d.take (k+1)=d.take k++[w]:=by rw[List.take_add_one,N];rfl
 have hkl:(d.take k).length<=1048576:=by
  have z:=List.length_take_le' k d;have L:=pL d fun w Q=>(F w Q).1;rw[<-q]at L;omega
 have m:=congrArg List.length v;rw[SH]at m;refine k3 (k2 ?_);refine A7 (A6 (A8 Z Z) Z (nO (DH s i w M (by omega) I J Z) Z Z Z Z ?_));rintro _ _ ⟨rfl,rfl⟩;refine A6 (A8 Z Z) Z (A6 (B5 Z Z) Z (A6 (B5 Z Z) Z (A6 (A9 Z Z) Z (A6 (A9 Z Z) Z (B0 ?_)))));refine k1 (k2 (k2 ?_));refine A7 (A6 (A8 Z Z) Z (A6 (M8 Z) Z (B0 ?_)));refine k1 ?_;refine B7 rfl (fun j=>?_) (fun j=>?_)
 ·cases j
 refine k5 (k1 (k2 ?_));refine A7 (A6 (A8 Z Z) Z (A6 (A8 Z Z) Z (A6 (D9 (c:=O7) (ys:=[w]) (D4 Z Z Z Z H3) Z Z Z) Z (D3 (K8 Z Z Z (.pure _ _ _ _) (by (simp only[RJ,RP];omega)) Z) Z (A6 (A9 Z Z) Z (B0 ?_))))));refine k1 (k2 (k2 ?_));refine A7 (A6 (A8 Z Z) Z (A6 (C1 Z) Z (A6 (B1 Z) Z (A6 (B2 Z Z Z) Z (A6 (A8 Z Z) Z (A6 (M2 Z) Z (A6 (J4 Z Z) Z (B0 ?_))))))));refine k1 ?_;rcases y:d.drop (k+1) with _ | ⟨x,r⟩
 ·rw[y]at v m;rw[pJ]at m;refine B7 rfl (fun j=>?_) (fun j=>?_);rotate_left
  ·exact absurd (show ((i+w.length:Nat):Int)=s.length by omega) (A1 j)
  refine k2 ?_;refine A7 (A6 (A8 Z Z) Z (A6 (A9 Z Z) Z (A6 (A9 Z Z) Z (B0 ?_))));refine k1 (J0 (M7 (X3 (M7 (X3 ?_)))));refine C0 (rs:=[bT (d.take k++[w]),G5 true]) (Z7 Z Z Z Z Z) ?_;have O:d=d.take (k+1):=by
   have z:=SW (k+1) d;rw[y,SJ]at z;exact z.symm
  rw[<-D,<-O]
 ·rw[y,p9]at v;rw[y,p9,RK,RJ]at m;have H:s[i+w.length]?=some 32:=by
   rw[<-SO,v,RZ (Nat.le_refl _),TE];rfl
  refine B7 rfl (fun j=>?_) (fun j=>?_)
  ·have:=A0 j;omega
  refine k5 (k1 (k2 (k2 ?_)));refine A7 (A6 (A8 Z Z) Z (A6 (A8 Z Z) Z (A6 (C1 Z) Z (A6 (B1 Z) Z (A6 (B2 Z Z Z) Z (A6 (O1 Z Z (by omega) (by rw[RI];exact H)) Z ?_))))));refine A6 (P6 Z Z) Z (B0 ?_);refine k1 ?_;refine B7 rfl (fun j=>?_) (fun j=>?_)
  ·exact absurd rfl (A0 j)
  refine k5 (k1 ?_);refine A7 (A6 (A8 Z Z) Z (A6 (C1 Z) Z (A6 (B1 Z) Z (A6 (B2 Z Z Z) Z (A6 (D2 Z Z (by omega)) Z (A6 (C1 Z) Z (A6 (B1 Z) Z (F7 (C4 TySz.out Z Z Z Z Z Z) (B0 ?_)))))))));refine k4 (k1 ?_);have A:k+1<d.length:=by
   have:=congrArg List.length y;rw[SH,RJ]at this;omega
  refine⟨(k+1,i+w.length+1),⟨A,?_,by dsimp only;have:=xE x r;have:=List.length_pos_iff.2 (F x (List.mem_of_mem_drop (by rw[y];exact List.mem_cons_self ..))).1;omega⟩,by dsimp only;omega,?_⟩
  ·dsimp only;rw[y,Nat.add_assoc,<-List.drop_drop,v];exact EM _ _ _
  ·dsimp only;rw[D];exact Sees.of ⟨B4 rfl,B4 rfl,B4 rfl,B4 rfl,trivial⟩ ⟨rfl,rfl,trivial⟩
theorem HC(f:CForm)(c:List Str)(hw:∀w∈c,w.length<=1048576)(hl:c.length<=1048576) :
  FnOk Tryz.prog 157 [HU f,bT c] (fun rs=>rs=[bI ((s8 f c).getD kM),G5 (s8 f c).isSome]):=by
 have k:=xG f c;obtain⟨L,U⟩:∃L,L=R9 f:=⟨_,rfl⟩
 obtain⟨W,J⟩:∃W,W=fB f c:=⟨_,rfl⟩
 obtain⟨H,B⟩:∃H,H=pK f c:=⟨_,rfl⟩
 obtain⟨R,hR⟩:∃R,R=s8 f c:=⟨_,rfl⟩
 have ac:∀w∈W,w.length<=1048576:=fun w h=>hw w (EK (by rw[<-J];exact h));have ab:=EL f c;have V:=xB f;rw[<-U,<-J,<-B,<-hR]at k;rw[<-J]at ab;rw[<-U]at V;rw[<-hR];refine FnOk.intro Tryz.func157 (by decide) Z Z Z Z ?_;refine k2 ?_;refine A7 (D3 (bU 2 Z Z Z) Z (D3 (I5 4 Z) Z (A6 (A9 Z Z) Z (B0 ?_))));refine k1 (k2 ?_);refine A7 (A6 (B1 Z) Z (A6 (B2 Z Z Z) Z (A6 (B1 Z) Z (A6 (B2 Z Z Z) Z (A6 (H0 Z) Z (D3 (I5 6 Z) Z (F7 (C4 TySz.out Z Z Z Z Z Z) (B0 ?_))))))));refine k1 (k2 ?_);refine A7 (A6 (F4 Z Z Z) Z (aE (iG f Z Z) Z Z Z ?_));rintro _ _ ⟨rfl,rfl⟩;refine A6 (A9 Z Z) Z (B0 ?_);rw[<-U];refine k1 (k2 (k2 ?_));refine A7 (A6 (B1 Z) Z (A6 (B2 Z Z Z) Z (B0 ?_)));refine k1 ?_;refine nY (X:=Unit) (fun _=>([(1,E2 Str 1 O7 W),(4,.s (.one (.ref 4 0))),(6,.s (.one (.ref 6 0))),(7,.s (.one (.mut 751)))],[(4,.box (iX kM)),(6,.box (iX H)),(751,DD L)])) (fun _=>¬(f.text=true/\c=[])) ?_ ?_
 ·skip;refine B7 rfl (fun d=>?_) (fun d=>?_)
  ·have hb:f.text=true:=d;refine k2 (k2 ?_);refine A7 (A6 (A8 Z Z) Z (A6 (E8 Z (.pure _ _ _ _)) Z (A6 (J4 Z Z) Z (B0 ?_))));refine k1 ?_;refine B7 rfl (fun d=>?_) (fun d=>?_)
   ·have he:c=[]:=by
     have I:=A0 d;exact List.length_eq_zero_iff.1 (by omega)
    rw[A4 ⟨hb,he⟩]at k;refine k2 ?_;refine A7 (A6 (H0 Z) Z (F7 (C4 TySz.out Z Z Z Z Z Z) (A6 (A9 Z Z) Z (B0 ?_))));refine k1 (J0 (M7 (M7 ?_)));exact C0 (rs:=[bI kM,G5 false]) (gP rfl rfl rfl rfl rfl rfl rfl) (by rw[k];rfl)
   have q:¬c=[]:=fun e=>by
    have I:=A1 d;rw[e]at I;exact I rfl
   have ag:=List.length_pos_iff.2 q;have F:c[((c.length:Int)-1).toNat]?=some (c.getLastD []):=by
    rw[show ((c.length:Int)-1).toNat=c.length-1 by omega,<-List.getLast?_eq_getElem?,List.getLastD_eq_getLast?];cases h:c.getLast? with
    | none=>exact absurd (List.getLast?_eq_none_iff.1 h) q
    | some x=>rfl
   have ae:c.take ((c.length:Int)-1).toNat=W:=by
    rw[J];unfold fB;rw[A4 hb,List.dropLast_eq_take,show ((c.length:Int)-1).toNat=c.length-1 by omega]
   have C:H=⟨f.kind,0,0,0,f.dense,c.getLastD []⟩:=by rw[B];unfold pK;rw[A4 hb]
   subst C;refine k5 (k1 (k2 ?_));refine A7 (A6 (A8 Z Z) Z (A6 (A8 Z Z) Z (A6 (E8 Z (.pure _ _ _ _)) Z (A6 (P2 Z Z (by omega)) Z (A6 (B8 Z (.pure _ _ _ _) Z (by omega) F) Z (A6 (C3 Z Z) Z (A6 (B1 Z) Z (F7 (C4 TySz.out Z Z Z Z Z Z) (B0 ?_)))))))));refine k1 ?_;refine A7 (A6 (A8 Z Z) Z (A6 (A8 Z Z) Z (A6 (E8 Z (.pure _ _ _ _)) Z (A6 (P2 Z Z (by omega)) Z (A6 (qQ Z (.pure _ _ _ _) Z (by omega) (by omega)) Z (A6 (A9 Z Z) Z (B0 ?_)))))));rw[ae];refine k1 ?_;exact⟨(),(fun h=>q h.2),(Sees.of ⟨B4 rfl,B4 rfl,B4 rfl,B4 rfl,trivial⟩ ⟨rfl,rfl,rfl,trivial⟩)⟩
  ·have hb:f.text=false:=d;have C:H=⟨f.kind,0,0,0,f.dense,[]⟩:=by rw[B];unfold pK;rw[A5 (by rw[hb];decide)]
   have Y:W=c:=by rw[J];unfold fB;rw[A5 (by rw[hb];decide)]
   subst C Y;refine k5 (k1 ?_);exact⟨(),(fun h=>by rw[hb]at h;cases h.1),(Sees.of ⟨B4 rfl,B4 rfl,B4 rfl,B4 rfl,trivial⟩ ⟨rfl,rfl,rfl,trivial⟩)⟩
 rintro _ K;dsimp only;rw[A5 K]at k;refine k2 (k2 ?_);refine A7 (A6 (A8 Z Z) Z (A6 (E8 Z (.pure _ _ _ _)) Z (A6 (A8 Z Z) Z (A6 (vR Z Z) Z (A6 (P6 Z Z) Z (B0 ?_))))));refine k1 ?_;refine B7 rfl (fun d=>?_) (fun d=>?_)
 ·have q:W.length≠L.length:=fun e=>by
   have I:=A0 d;omega
  rw[A4 q]at k;refine k2 ?_;refine A7 (A6 (H0 Z) Z (F7 (C4 TySz.out Z Z Z Z Z Z) (A6 (A9 Z Z) Z (B0 ?_))));refine k1 (J0 (M7 ?_));exact C0 (rs:=[bI kM,G5 false]) (gP rfl rfl rfl rfl rfl rfl rfl) (by rw[k];rfl)
 have A:W.length=L.length:=by have I:=A1 d;omega
 rw[A5 (fun e=>e A)]at k;refine k5 (k1 (k2 (k2 ?_)));refine A7 (A6 (A8 Z Z) Z (A6 (E8 Z (.pure _ _ _ _)) Z (A6 (A8 Z Z) Z (B0 ?_))));refine k1 (k3 ?_);refine E3 (X:=Nat×Cmd) (fun x=>([(4,.s (.one (.ref 4 0))),(6,.s (.one (.ref 6 0))),(7,.s (.one (.mut 751))),(44,E2 Str 1 O7 W),(45,C8 W.length),(46,C8 x.1)],[(4,.box (iX kM)),(6,.box (iX x.2)),(751,DD L)])) (fun x=>x.1<=L.length/\R=bK (L.drop x.1) (W.drop x.1) x.2) (fun x=>L.length-x.1) (0,H) ⟨Nat.zero_le _,k⟩ (Sees.of ⟨B4 rfl,B4 rfl,B4 rfl,B4 rfl,B4 rfl,B4 rfl,trivial⟩ ⟨rfl,rfl,rfl,trivial⟩) ?_;rintro⟨j,cj⟩ ⟨hj,y⟩;dsimp only at hj y ⊢;refine k2 ?_;refine A7 (A6 (F3 Z Z) Z (B0 ?_));refine k1 (k2 ?_);refine B7 rfl (fun d=>?_) (fun d=>?_);rotate_left
 ·have ad:j=L.length:=by have:=A1 d;omega
  rw[ad,List.drop_length,<-A,List.drop_length]at y;unfold bK at y;refine k6 (k2 ?_);refine A7 (A6 (F4 Z Z Z) Z (F7 (C4 TySz.out Z Z Z Z Z Z) (A6 (A9 Z Z) Z (B0 ?_))));refine k1 (J0 ?_);exact C0 (rs:=[bI cj,G5 true]) (gP rfl rfl rfl rfl rfl rfl rfl) (by rw[y];rfl)
 have E:j<L.length:=by have:=A0 d;omega
 have O:j<W.length:=by omega
 obtain⟨o,ho⟩:∃o,o=L[j]:=⟨_,rfl⟩
 have Q:L[j]?=some o:=by rw[ho];exact RG E
 obtain⟨w,T⟩:∃w,w=W[j]:=⟨_,rfl⟩
 have G:W[j]?=some w:=by rw[T];exact RG O
 have ah:=ac w (SA G);have P:=CI (f:=f) (o:=o) (by rw[<-U];exact SA Q);have af:(HA L)[((j:Nat):Int).toNat*1+0]?=some (.ref 6 o):=by rw[RI,Nat.mul_one,Nat.add_zero,SR,Q];rfl
 have M:Nat.ble (o+1) 6=true:=by rcases P with rfl | rfl | rfl<;>rfl
 rw[RO E,<-ho,RO O,<-T,bK]at y;have v:=fU w 0 (Nat.zero_le _) (by omega);cases z:dH w with
 | none =>
  rw[z]at y;rw[DG (by rw[List.drop_zero];exact z)]at v;refine k5 (k1 (k2 (k3 (k2 ?_))));refine A7 (A6 (A8 Z Z) Z (A6 (B8 Z (.pure _ _ _ _) Z (by omega) G) Z (A6 (C3 Z Z) Z (A6 (A9 Z Z) Z (A6 (A9 Z Z) Z (B0 ?_))))));refine k1 (k2 ?_);refine A7 (A6 (A8 Z Z) Z (C7 (v) Z Z Z ?_));rintro _ rfl;refine A6 (A8 Z Z) Z (A6 (B5 Z Z) Z (A6 (B5 Z Z) Z (A6 (B5 Z Z) Z (A6 (A9 Z Z) Z (A6 (A9 Z Z) Z (A6 (A9 Z Z) Z (B0 ?_)))))));refine k1 (k2 (k2 ?_));refine A7 (A6 (A8 Z Z) Z (A6 (M8 Z) Z (A6 (A8 Z Z) Z (B3 Z Z Z Z (fun l=>by rw[l];exact A8 Z Z) ?_))));refine B3 Z Z Z Z (fun l=>by rw[l];exact A8 Z Z) ?_;refine B3 Z Z Z Z (fun l=>by rw[l];exact M2 Z) ?_;refine B3 Z Z Z Z (fun l=>by rw[l];exact P6 Z Z) ?_;refine A6 (B9 Z (fun h=>by first | rfl | (rw[h];rfl)) (fun h=>by first | rfl | (rw[h];rfl))) Z ?_;refine B0 ?_;refine k1 ?_;refine B7 rfl (fun d=>?_) (fun d=>?_);rotate_left
  ·exact absurd d (by simp)
  refine k2 ?_;refine A7 (A6 (H0 Z) Z (F7 (C4 TySz.out Z Z Z Z Z Z) (A6 (A9 Z Z) Z (B0 ?_))));refine k1 (J0 (M7 (X3 (M7 (M7 (X3 (M7 ?_)))))));exact C0 (rs:=[bI kM,G5 false]) (gP rfl rfl rfl rfl rfl rfl rfl) (by rw[y];rfl)
 | some p =>
  obtain⟨n,e⟩:=p;rw[z]at y;rw[jX (by rw[List.drop_zero];exact z)]at v;dsimp only at y;refine k5 (k1 (k2 (k3 (k2 ?_))));refine A7 (A6 (A8 Z Z) Z (A6 (B8 Z (.pure _ _ _ _) Z (by omega) G) Z (A6 (C3 Z Z) Z (A6 (A9 Z Z) Z (A6 (A9 Z Z) Z (B0 ?_))))));refine k1 (k2 ?_);refine A7 (A6 (A8 Z Z) Z (C7 (v) Z Z Z ?_));rintro _ rfl;refine A6 (A8 Z Z) Z (A6 (B5 Z Z) Z (A6 (B5 Z Z) Z (A6 (B5 Z Z) Z (A6 (A9 Z Z) Z (A6 (A9 Z Z) Z (A6 (A9 Z Z) Z (B0 ?_)))))));refine k1 (k2 (k2 ?_));refine A7 (A6 (A8 Z Z) Z (A6 (M8 Z) Z (A6 (A8 Z Z) Z (B3 Z Z Z Z (fun l=>by rw[l];exact A8 Z Z) ?_))));refine B3 Z Z Z Z (fun l=>by rw[l];exact A8 Z Z) ?_;refine B3 Z Z Z Z (fun l=>by rw[l];exact M2 Z) ?_;refine B3 Z Z Z Z (fun l=>by rw[l];exact P6 Z Z) ?_;refine A6 (B9 Z (fun h=>by first | rfl | (rw[h];rfl)) (fun h=>by first | rfl | (rw[h];rfl))) Z ?_;refine B0 ?_;refine k1 ?_;refine B7 rfl (fun d=>?_) (fun d=>?_)
  ·have q:¬e=w.length:=fun h=>by
    revert d;simp[h]
   rw[A5 q]at y;refine k2 ?_;refine A7 (A6 (H0 Z) Z (F7 (C4 TySz.out Z Z Z Z Z Z) (A6 (A9 Z Z) Z (B0 ?_))));refine k1 (J0 (M7 (X3 (M7 (M7 (X3 (M7 ?_)))))));exact C0 (rs:=[bI kM,G5 false]) (gP rfl rfl rfl rfl rfl rfl rfl) (by rw[y];rfl)
  have he:e=w.length:=by
   apply Classical.byContradiction;intro h;revert d;simp;omega
  rw[A4 he]at y;refine k5 (k1 ?_);refine A7 (A6 (A8 Z Z) Z (A6 (A8 Z Z) Z (A6 (cV Z Z Z (by omega) (by omega)) Z (A6 (rG Z Z af) Z (A6 (A8 Z Z) Z (A6 (C1 Z) Z (F7 (C4 TySz.out Z Z Z Z Z (M)) (B0 ?_))))))));refine k4 (k1 ?_);refine A7 (A6 (D2 Z Z (by omega)) Z (A6 (A8 Z Z) Z (B0 ?_)));refine k1 ?_;exact⟨(j+1,cj.put o n),⟨E,y⟩,by dsimp only;omega,(by dsimp only;rw[<-xC (n:Int) P];exact (Sees.of ⟨B4 rfl,B4 rfl,B4 rfl,B4 rfl,B4 rfl,B4 rfl,trivial⟩ ⟨rfl,rfl,rfl,trivial⟩))⟩
theorem DI(l:Str)(q:List Str)(D:q≠[])(K:∀w∈q,w.length<=1048576)(I:q.length<=1048576)(G:FnOk Tryz.prog 13 [G8 l] (fun rs=>rs=[bT q,G5 true])) :
  FnOk Tryz.prog 101 [G8 l] (fun rs=>rs=[bI (kP q).1,E7 (kP q).2]):=by
 obtain⟨w,r,rfl⟩:=List.exists_cons_of_ne_nil D;obtain⟨R,F⟩:∃R,R=kP (w::r):=⟨_,rfl⟩
 have v:R=match bL w r formsL with
  | some c=>(c,0)
  | none=>(kM,320):=F
 rw[<-F];refine FnOk.intro Tryz.func101 (by decide) Z Z Z Z ?_;refine k2 ?_;refine A7 (D3 (I5 2 Z) Z (A6 (A9 Z Z) Z (B0 ?_)));refine k1 (k2 ?_);refine A7 (A6 (A8 Z Z) Z (C7 (G) Z Z Z ?_));rintro _ rfl;refine A6 (A8 Z Z) Z (A6 (B5 Z Z) Z (A6 (B5 Z Z) Z (A6 (A9 Z Z) Z (A6 (A9 Z Z) Z (B0 ?_)))));refine k1 (k2 (k2 ?_));refine A7 (A6 (A8 Z Z) Z (A6 (M8 Z) Z (A6 (A8 Z Z) Z (B3 Z Z Z Z (fun z=>by rw[z];exact A8 Z Z) ?_))));refine B3 Z Z Z Z (fun z=>by rw[z];exact E8 Z (.pure _ _ _ _)) ?_;refine B3 Z Z Z Z (fun z=>by rw[z];exact J4 Z Z) ?_;refine A6 (B9 Z (fun h=>by first | rfl | (rw[h];rfl)) (fun h=>by first | rfl | (rw[h];rfl))) Z ?_;refine B0 ?_;refine k1 ?_;refine B7 rfl (fun d=>?_) (fun d=>?_)
 ·exfalso;revert d;simp
  try omega
 refine k5 (k1 (k2 (k2 ?_)));refine A7 (C7 (rM) Z Z Z ?_);rintro _ rfl;refine A6 (E8 Z (.pure _ _ _ _)) Z (A6 (A8 Z Z) Z (B0 ?_));refine k1 (k3 ?_);refine E3 (X:=Nat) (fun i=>([(2,.s (.one (.ref 2 0))),(4,E2 Str 1 O7 (w::r)),(23,E2 CForm 6 pI formsL),(24,C8 10),(25,C8 i)],[(2,.box (iX kM))])) (fun i=>i<=10/\bL w r formsL=bL w r (formsL.drop i)) (fun i=>10-i) 0 ⟨Nat.zero_le _,rfl⟩ (Sees.of ⟨B4 rfl,B4 rfl,B4 rfl,B4 rfl,B4 rfl,trivial⟩ ⟨rfl,trivial⟩) ?_;rintro i ⟨H,j⟩;dsimp only at H j ⊢;refine k2 ?_;refine A7 (A6 (F3 Z Z) Z (B0 ?_));refine k1 (k2 ?_);refine B7 rfl (fun d=>?_) (fun d=>?_);rotate_left
 ·have C:i=10:=by have:=A1 d;omega
  subst C;have m:R=(kM,320):=by rw[v,j];rfl
  refine k6 (k2 ?_);refine A7 (A6 (H0 Z) Z (F7 (C4 TySz.out Z Z Z Z Z Z) (A6 (A9 Z Z) Z (B0 ?_))));refine k1 (J0 ?_);exact C0 (rs:=[bI kM,E7 320]) (gP rfl rfl rfl rfl rfl rfl rfl) (by rw[m])
 have k:i<formsL.length:=by have h:=A0 d;show i<10;omega
 obtain⟨f,y⟩:∃f,f=formsL[i]:=⟨_,rfl⟩
 have J:formsL[i]?=some f:=by rw[y];exact RG k
 rw[RO k,<-y,bL]at j;refine k5 (k1 (k2 (k3 (k2 ?_))));refine A7 (A6 (B8 Z (.pure _ _ _ _) Z (by omega) J) Z (A6 (G3 Z Z) Z (D3 (I5 7 Z) Z (F7 (C4 TySz.out Z Z Z Z Z Z) (B0 ?_)))));refine k1 (k2 (k2 ?_));refine F1 (by kernel_rfl) (by kernel_rfl) (B6 (B1 Z) Z Z (B6 (B2 Z Z Z) Z Z (B6 (A8 Z Z) Z Z (B6 (B8 Z (.pure _ _ _ _) Z (by omega) (show (w::r)[(0:Int).toNat]?=some w from Z)) Z Z (B6 (C3 Z Z) Z Z (B6 (dQ Z Z) Z Z (T3 ?_)))))));refine k1 ?_;refine B7 rfl (fun d=>?_) (fun d=>?_)
 ·have E:f.word≠w:=A0 d;rw[A4 E]at j;refine k6 (k7 (k8 Z (k1 ?_)));refine A7 (A6 (D2 Z Z (by omega)) Z (A6 (A8 Z Z) Z (B0 ?_)));refine k1 ?_;exact⟨i+1,⟨k,j⟩,by have:formsL.length=10:=rfl;omega,Sees.of ⟨B4 rfl,B4 rfl,B4 rfl,B4 rfl,B4 rfl,trivial⟩ ⟨rfl,trivial⟩⟩
 have B:¬f.word≠w:=A1 d;rw[A5 B]at j;have g:=HC f r (fun x L=>K x (by simp[L])) (by simp only[RJ]at I;omega);cases A:s8 f r with
 | some c =>
  rw[A]at g j;have m:R=(c,0):=by rw[v,j]
  refine k5 (k1 (k2 ?_));refine aR [8,7] [[],[7],[8,7]] [(0,[7]),(1,[7]),(2,[7]),(3,[7]),(4,[7]),(5,[7]),(6,[7]),(6,[8,7])] (by kernel_rfl) (by kernel_rfl) (S2 Z (F4 Z Z Z) (S2 Z (A8 Z Z) (S2 Z (o9 Z (.pure _ _ _ _) Z (by ((try simp only[RJ]);omega)) (by ((try simp only[RJ]);omega))) ?_)));refine S2 Z (K4 (g) Z Z) (S2 Z (A8 Z Z) (S2 Z (B5 Z Z) (S2 Z (B5 Z Z) (BK 8 Z Z (mI (u6 TySz.out Z Z Z Z Z Z) (S2 Z (A9 Z Z) ?_))))));refine FX rfl ?_ ?_
  ·refine X5 Z Z (F4 Z Z Z) (X5 Z Z (A8 Z Z) (X5 Z Z (o9 Z (.pure _ _ _ _) Z (by ((try simp only[RJ]);omega)) (by ((try simp only[RJ]);omega))) ?_));refine X5 Z Z (K4 (g) Z Z) (X5 Z Z (A8 Z Z) (X5 Z Z (B5 Z Z) (X5 Z Z (B5 Z Z) (X5 Z Z (B5 Z Z) ?_))));exact FY
  refine k1 (k2 ?_);refine A7 (A6 (A8 Z Z) Z (B0 ?_));refine k1 ?_;refine B7 rfl (fun d=>?_) (fun d=>?_);rotate_left
  ·cases d
  refine k2 ?_;refine A7 (A6 (F4 Z Z Z) Z (F7 (C4 TySz.out Z Z Z Z Z Z) (A6 (A9 Z Z) Z (B0 ?_))));refine k1 (J0 (X3 (M7 (M7 (X3 (M7 ?_))))));exact C0 (rs:=[bI c,E7 0]) (gP rfl rfl rfl rfl rfl rfl rfl) (by rw[m])
 | none =>
  rw[A]at g j;refine k5 (k1 (k2 ?_));refine aR [8,7] [[],[7],[8,7]] [(0,[7]),(1,[7]),(2,[7]),(3,[7]),(4,[7]),(5,[7]),(6,[7]),(6,[8,7])] (by kernel_rfl) (by kernel_rfl) (S2 Z (F4 Z Z Z) (S2 Z (A8 Z Z) (S2 Z (o9 Z (.pure _ _ _ _) Z (by ((try simp only[RJ]);omega)) (by ((try simp only[RJ]);omega))) ?_)));refine S2 Z (K4 (g) Z Z) (S2 Z (A8 Z Z) (S2 Z (B5 Z Z) (S2 Z (B5 Z Z) (BK 8 Z Z (mI (u6 TySz.out Z Z Z Z Z Z) (S2 Z (A9 Z Z) ?_))))));refine FX rfl ?_ ?_
  ·refine X5 Z Z (F4 Z Z Z) (X5 Z Z (A8 Z Z) (X5 Z Z (o9 Z (.pure _ _ _ _) Z (by ((try simp only[RJ]);omega)) (by ((try simp only[RJ]);omega))) ?_));refine X5 Z Z (K4 (g) Z Z) (X5 Z Z (A8 Z Z) (X5 Z Z (B5 Z Z) (X5 Z Z (B5 Z Z) (X5 Z Z (B5 Z Z) ?_))));exact FY
  refine k1 (k2 ?_);refine A7 (A6 (A8 Z Z) Z (B0 ?_));refine k1 ?_;refine B7 rfl (fun d=>?_) (fun d=>?_)
  ·cases d
  refine k5 (k4 (k1 ?_));refine A7 (A6 (D2 Z Z (by omega)) Z (A6 (A8 Z Z) Z (B0 ?_)));refine k1 ?_;exact⟨i+1,⟨k,j⟩,by have:formsL.length=10:=rfl;omega,Sees.of ⟨B4 rfl,B4 rfl,B4 rfl,B4 rfl,B4 rfl,trivial⟩ ⟨rfl,trivial⟩⟩
theorem zK(a:List Str)(c:a≠[])(d:∀w∈a,w≠[]/\w.all N1=true/\w.length<=1048576)(f:(N2 a).length<=1048576) :
  FnOk Tryz.prog 101 [G8 (N2 a)] (fun i=>i=[bI (kP a).1,E7 (kP a).2]) :=
 DI (N2 a) a c (fun w b=>(d w b).2.2) (Nat.le_trans (pL a fun w b=>(d w b).1) f) (oE a c (fun w b=>⟨(d w b).1,(d w b).2.1⟩) f)
theorem DJ(s:Str)(J:s.length<=536870912):FnOk Tryz.prog 52 [G8 s] (fun rs=>rs=[bT (pS s).1,E7 (pS s).2]):=by
 obtain⟨R,F⟩:∃R,R=pS s:=⟨_,rfl⟩
 have b:=F;unfold pS at b;rw[<-F];refine FnOk.intro Tryz.func52 (by decide) Z Z Z Z ?_;refine k2 ?_;refine A7 (A6 (K7 _ 1 O7) Z (A6 (A9 Z Z) Z (B0 ?_)));refine k1 (k2 (k2 ?_));refine A7 (A6 (A8 Z Z) Z (A6 (M2 Z) Z (A6 (S0 Z Z) Z (B0 ?_))));refine k1 ?_;refine B7 rfl (fun d=>?_) (fun d=>?_)
 ·have q:65536<s.length:=by have:=A0 d;omega
  rw[A4 q]at b;refine k2 ?_;refine A7 (A6 (K7 _ 1 O7) Z (A6 (A9 Z Z) Z (B0 ?_)));refine k1 (J0 (M7 ?_));exact C0 (rs:=[bT [],E7 1]) (Z7 rfl rfl rfl rfl rfl) (by rw[b])
 have q:¬65536<s.length:=by have:=A1 d;omega
 rw[A5 q]at b;obtain⟨P,E⟩:∃P,P=N6 s:=⟨_,rfl⟩
 have B:∀t∈P.1,t.length<=1048576:=by
  intro t p;rw[E]at p;unfold N6 at p;split at p
  ·cases p
  ·have x:=(AN s).1;have M:t.length<=(D8 s).flatten.length:=(List.sublist_flatten_of_mem p).length_le;omega
 have G:=oC s J;rw[<-E]at G b;refine k5 (k1 (k2 ?_));refine A7 (A6 (A8 Z Z) Z (vP (G) Z Z Z Z ?_));rintro _ _ ⟨rfl,rfl⟩;refine⟨rfl,?_⟩;refine A6 (A8 Z Z) Z (A6 (B5 Z Z) Z (A6 (B5 Z Z) Z (A6 (A9 Z Z) Z (A6 (A9 Z Z) Z (B0 ?_)))));refine k1 (k2 (k2 ?_));refine A7 (A6 (A8 Z Z) Z (A6 (P6 Z Z) Z (A6 (A8 Z Z) Z (B3 Z Z Z Z (fun z=>by rw[z];exact A8 Z Z) ?_))));refine B3 Z Z Z Z (fun z=>by rw[z];exact mH Z Z) ?_;refine B3 Z Z Z Z (fun z=>by rw[z];exact S0 Z Z) ?_;refine A6 (B9 Z (fun h=>by first | rfl | (rw[h];rfl)) (fun h=>by first | rfl | (rw[h];rfl))) Z ?_;refine B0 ?_;refine k1 ?_;refine B7 rfl (fun d=>?_) (fun d=>?_)
 ·have x:P.2≠0\/100<P.1.length:=by
   rw[or_pick]at d;have:=A0 d;omega
  rw[A4 x]at b;refine k2 ?_;refine A7 (A6 (K7 _ 1 O7) Z (A6 (A9 Z Z) Z (B0 ?_)));refine k1 (J0 (M7 ?_));exact C0 (rs:=[bT [],E7 1]) (Z7 rfl rfl rfl rfl rfl) (by rw[b])
 have x:¬(P.2≠0\/100<P.1.length):=by
  rw[or_pick]at d;have:=A1 d;omega
 rw[A5 x]at b;have H:P.1.length<=100:=by omega
 refine k5 (k1 (k2 (k2 ?_)));refine A7 (A6 (A8 Z Z) Z (A6 (mH Z Z) Z (A6 (A8 Z Z) Z (B0 ?_))));refine k1 (k3 ?_);refine E3 (X:=Nat) (fun i=>([(4,.s (.one (.mut 9))),(23,.s (.one (.mut 9))),(24,C8 P.1.length),(25,C8 i)],[(9,dT (x8 P.1 i))])) (fun i=>i<=P.1.length) (fun i=>P.1.length-i) 0 (Nat.zero_le _) (by dsimp only;rw[AW];exact (Sees.of ⟨B4 rfl,B4 rfl,B4 rfl,B4 rfl,trivial⟩ ⟨rfl,trivial⟩)) ?_;intro i I;dsimp only at I ⊢;have y:=ET P.1 i;refine k2 ?_;refine A7 (A6 (F3 Z Z) Z (B0 ?_));refine k1 (k2 ?_);refine B7 rfl (fun d=>?_) (fun d=>?_)
 ·have v:i<P.1.length:=by have q:=A0 d;(try dsimp only at q);omega
  obtain⟨t,w⟩:∃t,t=P.1[i]:=⟨_,rfl⟩
  have L:(x8 P.1 i)[i]?=some t:=by rw[w];exact EU v
  have A:(x8 P.1 i)[((i:Nat):Int).toNat]?=some t:=by rw[RI];exact L
  have r:=EV v;rw[<-w]at r;have K:t.length<=1048576:=B t (by rw[w];exact RM v);have C:FnOk Tryz.prog 99 [G8 t,G8 [10]] (fun rs=>rs=[G8 (dO t)]):=qC t [10] (by omega);refine k5 (k1 (k2 (k3 (k2 ?_))));refine A7 (A6 (A8 Z Z) Z (A6 (V4 Z Z Z (by omega) (by (rw[y];omega))) Z ?_));refine A6 (vM Z Z A Z) Z (A6 (A9 Z Z) Z (A6 (A9 Z Z) Z (B0 ?_)));refine k1 ?_;refine A7 (A6 (A8 Z Z) Z (A6 (A8 Z Z) Z (A6 (A8 Z Z) Z (C7 (C) Z Z Z ?_))));rintro _ rfl;refine A6 (V4 Z Z Z (by omega) (by (rw[y];omega))) Z ?_;refine F7 (jQ ((dO t)) TySz.out Z Z A Z Z Z Z (fun _ _ _ h=>cM h) (by intro j q x;rcases j with _ | _ | _ | _ | _ | _ | _ | j<;>first | rfl | omega)) ?_;refine B0 ?_;refine k4 (k1 ?_);refine A7 (A6 (D2 Z Z (by omega)) Z (A6 (A8 Z Z) Z (B0 ?_)));refine k1 ?_;exact⟨i+1,by omega,by omega,(by rw[<-r];exact (Sees.of ⟨B4 rfl,B4 rfl,B4 rfl,B4 rfl,trivial⟩ ⟨rfl,trivial⟩))⟩
 have D:i=P.1.length:=by have q:=A1 d;(try dsimp only at q);omega
 rw[D,EW];refine k6 (k2 ?_);refine A7 (A6 (A8 Z Z) Z (A6 (A9 Z Z) Z (A6 (A9 Z Z) Z (B0 ?_))));refine k1 (I9 (Sees.freezeG (k:=9) (α:=Str) (ec:=1) (c:=O7) (xs:=P.1.map dO) (e:=9) rfl rfl) ?_);refine J0 ?_;exact C0 (rs:=[bT (P.1.map dO),E7 0]) (Z7 rfl rfl rfl rfl rfl) (by rw[b])
theorem oF(ns:List Int)(h:ns.length<=8):FnOk Tryz.prog 77 [O5 ns] (fun rs=>rs=[G8 (M3 ns++[10])]):=by
 have g:m7 ns 0=[99,111,109,109,105,116]:=by simp[m7,f0]
 refine FnOk.intro Tryz.func77 (by decide) Z Z Z Z ?_;refine k2 ?_;refine A7 (A6 (A9 Z Z) Z (B0 ?_));refine k1 (k2 ?_);refine A7 (A6 (A9 Z Z) Z (B0 ?_));refine k1 (k2 (k2 ?_));refine A7 (A6 (A8 Z Z) Z (A6 (E8 Z (.pure _ _ _ _)) Z (A6 (A8 Z Z) Z (B0 ?_))));refine k1 (k3 ?_);refine E3 (X:=Nat) (fun i=>([(3,O4 (m7 ns i)),(6,E2 Int 1 G4 ns),(7,C8 ns.length),(8,C8 i)],[])) (fun i=>i<=ns.length) (fun i=>ns.length-i) 0 (Nat.zero_le _) (by dsimp only;rw[g];exact (Sees.of ⟨B4 rfl,B4 rfl,B4 rfl,B4 rfl,trivial⟩ trivial)) ?_;intro i k;dsimp only at k ⊢;have l:=c8 ns i;refine k2 ?_;refine A7 (A6 (F3 Z Z) Z (B0 ?_));refine k1 (k2 ?_);refine B7 rfl (fun d=>?_) (fun d=>?_)
 ·have c:i<ns.length:=by have a:=A0 d;(try dsimp only at a);omega
  obtain⟨n,m⟩:∃n,n=ns[i]:=⟨_,rfl⟩
  have f:ns[i]?=some n:=by rw[m];exact RG c
  have j:=p8 n;have o:=pM f;refine k5 (k1 (k2 (k3 (k2 ?_))));refine A7 (A6 (B8 Z (.pure _ _ _ _) Z (by omega) f) Z (A6 (C3 Z Z) Z (A6 (A9 Z Z) Z (B0 ?_))));refine k1 ?_;refine A7 (A6 (A8 Z Z) Z (A6 (A8 Z Z) Z (C7 (fT n) Z Z Z ?_)));rintro _ rfl;refine A6 (M1 Z Z (by (simp;omega))) Z (A6 (M1 Z Z (by (simp;omega))) Z (A6 (A9 Z Z) Z (B0 ?_)));rw[<-o];refine k4 (k1 ?_);refine A7 (A6 (D2 Z Z (by omega)) Z (A6 (A8 Z Z) Z (B0 ?_)));refine k1 ?_;exact⟨i+1,by omega,by omega,Sees.of ⟨B4 rfl,B4 rfl,B4 rfl,B4 rfl,trivial⟩ trivial⟩
 have b:i=ns.length:=by have a:=A1 d;(try dsimp only at a);omega
 rw[b]at l ⊢;refine k6 (k2 ?_);refine A7 (A6 (A8 Z Z) Z (A6 (M1 Z Z (by (simp;omega))) Z (A6 (A9 Z Z) Z (B0 ?_))));refine k1 (J0 ?_);exact C0 (rs:=[G8 (m7 ns ns.length++[10])]) (H7 rfl rfl rfl) rfl
theorem cZ(l:List Int)(e:Int)(h:l.length<=1000):FnOk Tryz.prog 33 [O5 l,E7 e] (fun rs=>rs=[G8 (Z2 (l.map fun c=>[c])),E7 e]):=by
 obtain⟨L,a⟩:∃L:List (List Int),L=l.map fun c=>[c]:=⟨_,rfl⟩
 have v:L.length=l.length:=by rw[a,SM]
 have x:∀ns∈L,ns.length<=1:=fun ns b=>by
  rw[a]at b;obtain⟨c,_,rfl⟩:=SF.1 b;exact Nat.le_refl _
 rw[<-a];refine FnOk.intro Tryz.func33 (by decide) Z Z Z Z ?_;refine k2 ?_;refine A7 (A6 (A9 Z Z) Z (A6 (A9 Z Z) Z (B0 ?_)));refine k1 (k2 ?_);refine A7 (A6 (A9 Z Z) Z (B0 ?_));refine k1 (k2 (k2 ?_));refine A7 (A6 (A8 Z Z) Z (A6 (E8 Z (.pure _ _ _ _)) Z (A6 (A8 Z Z) Z (B0 ?_))));refine k1 (k3 ?_);refine E3 (X:=Nat) (fun i=>([(1,C8 e),(6,O4 (Z9 L i)),(9,E2 Int 1 G4 l),(10,C8 l.length),(11,C8 i)],[])) (fun i=>i<=l.length) (fun i=>l.length-i) 0 (Nat.zero_le _) (by dsimp only;rw[sF];exact (Sees.of ⟨B4 rfl,B4 rfl,B4 rfl,B4 rfl,B4 rfl,trivial⟩ trivial)) ?_;intro i w;dsimp only at w ⊢;have z:=dX x i;refine k2 ?_;refine A7 (A6 (F3 Z Z) Z (B0 ?_));refine k1 (k2 ?_);refine B7 rfl (fun m=>?_) (fun m=>?_)
 ·have k:i<l.length:=by have d:=A0 m;(try dsimp only at d);omega
  obtain⟨n,b⟩:∃n,n=l[i]:=⟨_,rfl⟩
  have s:l[i]?=some n:=by rw[b];exact RG k
  have o:L[i]?=some [n]:=by rw[a,SR,s];rfl
  have y:=gC o;have f:=c8 [n] 1;have q:(M3 [n]).length<=17:=f;refine k5 (k1 (k2 (k3 (k2 ?_))));refine A7 (A6 (B8 Z (.pure _ _ _ _) Z (by omega) s) Z (A6 (C3 Z Z) Z (A6 (A9 Z Z) Z (B0 ?_))));refine k1 ?_;refine A7 (A6 (A8 Z Z) Z (A6 (A8 Z Z) Z (A6 (D9 (c:=G4) (ys:=[n]) (D4 Z Z Z Z H3) Z Z Z) Z (C7 (oF [n] (by simp)) Z Z Z ?_))));rintro _ rfl;refine A6 (M1 Z Z (by (simp;omega))) Z (A6 (A9 Z Z) Z (B0 ?_));rw[<-y];refine k4 (k1 ?_);refine A7 (A6 (D2 Z Z (by omega)) Z (A6 (A8 Z Z) Z (B0 ?_)));refine k1 ?_;exact⟨i+1,by omega,by omega,Sees.of ⟨B4 rfl,B4 rfl,B4 rfl,B4 rfl,B4 rfl,trivial⟩ trivial⟩
 have j:i=L.length:=by have d:=A1 m;(try dsimp only at d);omega
 rw[j];refine k6 (k2 ?_);refine A7 (A6 (A8 Z Z) Z (A6 (A8 Z Z) Z (A6 (A9 Z Z) Z (A6 (A9 Z Z) Z (B0 ?_)))));refine k1 (J0 ?_);exact C0 (rs:=[G8 (Z9 L L.length),E7 e]) (Z7 rfl rfl rfl rfl rfl) rfl
end Go.Proofs.YtbflhoahmmfkmaaGreatDoor
