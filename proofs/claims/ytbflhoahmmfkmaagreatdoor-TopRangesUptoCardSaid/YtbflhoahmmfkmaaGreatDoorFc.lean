/- Walks of the program's functions. -/
import Derived.Test.YtbflhoahmmfkmaaGreatDoorFb
set_option linter.all false
namespace Go.Proofs.YtbflhoahmmfkmaaGreatDoor
open Go Go.AL
set_option maxRecDepth 100000
set_option maxHeartbeats 1000000
theorem five{p:Nat->Prop}(a:p 0)(b:p 1)(c:p 2)(d:p 3)(e:p 4):∀i,i<5->p i
 | 0,_=>a
 | 1,_=>b
 | 2,_=>c
 | 3,_=>d
 | 4,_=>e
theorem L5{K:List Nat}{T rest:Obs}{k:Nat}{o:Ob}(a:C5 rest k=none)(h:∀j x,N3 K j=false->C5 rest j=some x->C5 T j=some x):∀j x,N3 K j=false->C5 rest j=some x->C5 ((k,o)::T) j=some x:=by
 intro j x c b;have:k≠j:=fun e=>by rw[e,b]at a;cases a
 rw[C8 this];exact h j x c b
def G4(ks:List Nat)(ob:Obs):Obs:=ks.foldl (fun f k=>Obs.forget k f) ob
theorem N0{k:Nat}:∀{ks:List Nat} {ob:Obs},C5 ob k=none->C5 (G4 ks ob) k=none
 | [],_,h=>h
 | q::ks,ob,h=>N0 (ks:=ks) (ob:=Obs.forget q ob) (by rw[L0,h];rfl)
theorem lB(k:Nat):∀(a:List Nat) (ob:Obs),G4 a (Obs.forget k ob)=Obs.forget k (G4 a ob)
 | [],_=>rfl
 | q::a,ob=>by
  show G4 a (Obs.forget q (Obs.forget k ob))=Obs.forget k (G4 a (Obs.forget q ob));rw[pF q k,lB k a]
theorem cE{k:Nat}:∀{a:List Nat} {ob:Obs},N3 a k=true->Obs.forget k (G4 a ob)=G4 a ob
 | [],ob,h=>by cases h
 | q::a,ob,h=>by
  show Obs.forget k (G4 a (Obs.forget q ob))=G4 a (Obs.forget q ob);by_cases b:k=q
  ·subst b;rw[lB,Obs.forget_idem]
  ·have c:N3 a k=true:=by
    rw[zK]at h ⊢;rcases XB.1 h with h | h
    ·exact absurd h b
    ·exact h
   exact cE c
theorem L8{K ks:List Nat}{T ob:Obs}(k:Nat)(d:N3 ks k=true)(h:∀j x,N3 K j=false->C5 (G4 ks ob) j=some x->C5 T j=some x) :
  ∀j x,N3 K j=false->C5 (G4 ks ob) j=some x->C5 (Obs.forget k T) j=some x:=by
 intro j x c a;rw[<-cE d,L0]at a;rw[L0];cases b:C5 (G4 ks ob) j with
 | none=>rw[b]at a;cases a
 | some y=>rw[b]at a;rw[h j y c b];exact a
abbrev UZ:AL.State:=⟨4,⟨0,0,0,0⟩,0,0⟩
abbrev VA:AL.State:=⟨3,⟨0,0,0,0⟩,0,0⟩
abbrev TO:AL.State:=⟨0,⟨0,8589934592,0,0⟩,2,0⟩
abbrev VT:AL.State:=⟨1,⟨0,0,0,0⟩,3,1⟩
abbrev VB:AL.State:=⟨2,⟨0,0,0,0⟩,4,0⟩
theorem uZ:FnOk Tryz.prog 74 [] (fun rs=>rs=[NF formsL]):=by
 refine FnOk.intro Tryz.func74 (by decide) Z Z Z Z ?_;refine k2 ?_;refine A7 (A6 (J1 _ 6 sO) Z (B0 ?_));refine k1 (k2 ?_);refine A7 (A6 (H1 Z) Z (A6 (H1 Z) Z (A6 (H1 Z) Z (A6 (H1 Z) Z (A6 (H1 Z) Z (A6 (H1 Z) Z (A6 (H1 Z) Z (A6 (H1 Z) Z (A6 (H1 Z) Z (A6 (H1 Z) Z (A6 (D9 (c:=sO) (ys:=formsL) (D8 Z Z Z Z (D8 Z Z Z Z (D8 Z Z Z Z (D8 Z Z Z Z (D8 Z Z Z Z (D8 Z Z Z Z (D8 Z Z Z Z (D8 Z Z Z Z (D8 Z Z Z Z (D8 Z Z Z Z H5)))))))))) Z Z Z) Z (A6 (A9 Z Z) Z (B0 ?_)))))))))))));refine k1 (I9 ?_);exact C2 (rs:=[NF formsL]) (J5 rfl rfl rfl) rfl
abbrev ML(l:List Nat):List TC:=l.map fun o=>.ref 6 o
abbrev IH(l:List Nat):Ob:=.growT 141 l.length 1 (ML l)
theorem lC{gf:Fr}{ob:Obs}(f:CForm)(z:C5 ob 751=none)(A:C5 ob 752=none) :
  AL.Met Tryz.prog 75 [(NE f).s1,.one (.ref 6 0)] gf ob [751,752] (fun rs ob'=>rs=[.one (.mut 751)]/\ob'=(751,IH (V5 f))::G4 [751,752] ob):=by
 obtain⟨q,d⟩:∃l:List Nat,l=if f.b=true then [1,2] else [1]:=⟨_,rfl⟩
 have w:V5 f=if f.c=true then q++[3] else q:=by rw[d];unfold V5;cases f.b<;>cases f.c<;>rfl
 have B:q.length<=2:=by rw[d];split<;>decide
 have x:C5 (G4 [751,752] ob) 751=none:=N0 z;have a:C5 (G4 [751,752] ob) 752=none:=N0 A;refine AL.Met.introH Tryz.func75 (by decide) rfl rfl rfl (fun p=>?_);refine G8 (Sees.forget 751) ?_;refine G8 (Sees.forget 752) ?_;refine G8 (VW (gf':=D2 [751,752] gf) (l:=[(0,.s (NE f).s1),(1,.s (.one (.ref 6 0)))]) (ob':=G4 [751,752] ob) ⟨B4 rfl,B4 rfl,trivial⟩ (G5 p) (by repeat (first | exact C3 | refine tail_drop rfl ?_ | refine C4 rfl ?_ | refine I7 _ rfl ?_)) (fun _ _ h=>h)) ?_;refine k2 ?_;refine A7 (A6 (jK Z Z Z) Z (A6 (A9 Z Z) Z (B0 ?_)));refine k1 (k2 ?_);refine A7 (A6 (A8 Z Z) Z (A6 (B5 Z) Z (A6 (B1 Z) Z (D6 (IB 751 Z Z Z Z x Z) Z (A6 (A9 Z Z) Z (B0 ?_))))));refine k1 (k2 (k2 ?_));refine A7 (A6 (C9 Z) Z (A6 (C0 Z Z) Z (B0 ?_)));refine k1 ?_;refine bF ([(1,.s (.one (.ref 6 0))),(2,.s (.one (.eref Unit 6 (fun _ j=>(cellsOf sO f 0 6).getD j (.v undef)) () 0))),(5,.s (.one (.mut 751)))]++D2 [751,752] gf) ([(751,IH q)]++G4 [751,752] ob) ?_ ?_
 ·skip;refine B9 rfl (fun k=>?_) (fun k=>?_)
  ·have hb:f.b=true:=k;rw[A4 hb]at d;subst d;skip;refine A7 (A6 (A8 Z Z) Z (A6 (A8 Z Z) Z (A6 (B5 Z) Z (A6 (B1 Z) Z (D6 (rC 752 Z Z Z Z (by rw[C8 (by decide),L0,a];rfl) Z) Z ?_)))));refine D6 (dJ Z Z Z Z (by decide) Z) Z (A6 (A9 Z Z) Z (B0 ?_));refine k1 ?_;exact VW ⟨B4 rfl,B4 rfl,B4 rfl,trivial⟩ (G5 p) (by repeat (first | exact C3 | refine tail_drop rfl ?_ | refine C4 rfl ?_ | refine I7 _ rfl ?_)) (G9 (L:=[(751,_)]) ⟨rfl,trivial⟩ (by repeat (first | exact F6 | refine G3 rfl ?_ | refine L5 a ?_ | refine L8 _ rfl ?_)))
  ·have hb:f.b=false:=k;rw[A5 (by rw[hb];decide)]at d;subst d;refine k5 (k1 ?_);exact VW ⟨B4 rfl,B4 rfl,B4 rfl,trivial⟩ (G5 p) (by repeat (first | exact C3 | refine tail_drop rfl ?_ | refine C4 rfl ?_ | refine I7 _ rfl ?_)) (G9 (L:=[(751,_)]) ⟨rfl,trivial⟩ (by repeat (first | exact F6 | refine G3 rfl ?_ | refine L5 a ?_ | refine L8 _ rfl ?_)))
 refine k2 (k2 ?_);refine A7 (A6 (C9 Z) Z (A6 (C0 Z Z) Z (B0 ?_)));refine k1 ?_;refine bF ([(5,.s (.one (.mut 751)))]++D2 [751,752] gf) ([(751,IH (V5 f))]++G4 [751,752] ob) ?_ ?_
 ·skip;refine B9 rfl (fun k=>?_) (fun k=>?_)
  ·have hb:f.c=true:=k;rw[A4 hb]at w;rw[w];have y:q=[1]\/q=[1,2]:=by
    rw[d];split
    ·exact .inr rfl
    ·exact .inl rfl
   clear d w B;rcases y with rfl | rfl
   ·skip;refine A7 (A6 (A8 Z Z) Z (A6 (A8 Z Z) Z (A6 (B5 Z) Z (A6 (B1 Z) Z (D6 (rC 752 Z Z Z Z a Z) Z (D6 (dJ Z Z Z Z (by decide) Z) Z (A6 (A9 Z Z) Z (B0 ?_))))))));refine k1 ?_;exact VW ⟨B4 rfl,trivial⟩ (G5 p) (by repeat (first | exact C3 | refine tail_drop rfl ?_ | refine C4 rfl ?_ | refine I7 _ rfl ?_)) (G9 (L:=[(751,_)]) ⟨rfl,trivial⟩ (by repeat (first | exact F6 | refine G3 rfl ?_ | refine L5 a ?_ | refine L8 _ rfl ?_)))
   ·skip;refine A7 (A6 (A8 Z Z) Z (A6 (A8 Z Z) Z (A6 (B5 Z) Z (A6 (B1 Z) Z (D6 (rC 752 Z Z Z Z a Z) Z (D6 (dJ Z Z Z Z (by decide) Z) Z (A6 (A9 Z Z) Z (B0 ?_))))))));refine k1 ?_;exact VW ⟨B4 rfl,trivial⟩ (G5 p) (by repeat (first | exact C3 | refine tail_drop rfl ?_ | refine C4 rfl ?_ | refine I7 _ rfl ?_)) (G9 (L:=[(751,_)]) ⟨rfl,trivial⟩ (by repeat (first | exact F6 | refine G3 rfl ?_ | refine L5 a ?_ | refine L8 _ rfl ?_)))
  ·have hb:f.c=false:=k;rw[A5 (by rw[hb];decide)]at w;rw[w];refine k5 (k1 ?_);exact VW ⟨B4 rfl,trivial⟩ (G5 p) (by repeat (first | exact C3 | refine tail_drop rfl ?_ | refine C4 rfl ?_ | refine I7 _ rfl ?_)) (G9 (L:=[(751,_)]) ⟨rfl,trivial⟩ (by repeat (first | exact F6 | refine G3 rfl ?_ | refine L5 a ?_ | refine L8 _ rfl ?_)))
 refine k2 ?_;refine A7 (A6 (A8 Z Z) Z (A6 (A9 Z Z) Z (B0 ?_)));refine k1 (I9 ?_);exact I6 (X2 rfl rfl) (by repeat (first | exact C3 | refine tail_drop rfl ?_ | refine C4 rfl ?_ | refine I7 _ rfl ?_)) (G9 (L:=[(751,_)]) ⟨rfl,trivial⟩ (by repeat (first | exact F6 | refine G3 rfl ?_ | refine L5 a ?_ | refine L8 _ rfl ?_))) ⟨rfl,rfl⟩
theorem II(c:Cmd)(Q:c.Text.length<=1048576):FnOk Tryz.prog 31 [dA c] (fun rs=>rs=[I3 (jZ c).1,E8 (jZ c).2]):=by
 refine FnOk.intro Tryz.func31 (by decide) Z Z Z Z ?_;refine k2 ?_;refine A7 (D6 (j1 1 Z Z Z) Z (A6 (A9 Z Z) Z (A6 (A9 Z Z) Z (B0 ?_))));refine k1 (k2 (k2 ?_));refine A7 (D1 (uZ) Z Z Z ?_);rintro _ rfl;refine A6 (F0 Z (.pure _ _ _ _)) Z (A6 (A8 Z Z) Z (B0 ?_));refine k1 (k3 ?_);refine E4 (X:=Nat) (fun i=>([(1,.s (.one (.ref 1 0))),(10,E3 CForm 6 sO formsL),(11,C7 10),(12,C7 i)],[(1,.box (lW c))])) (fun i=>i<=10/\jZ c=BI c (formsL.drop i)) (fun i=>10-i) 0 ⟨Nat.zero_le _,rfl⟩ (Sees.of ⟨B4 rfl,B4 rfl,B4 rfl,B4 rfl,trivial⟩ ⟨rfl,trivial⟩) ?_;rintro i ⟨hi,A⟩;dsimp only at hi A ⊢;refine k2 ?_;refine A7 (A6 (F3 Z Z) Z (B0 ?_));refine k1 (k2 ?_);refine B9 rfl (fun d=>?_) (fun d=>?_);rotate_left
 ·have S:i=10:=by have:=A1 d;omega
  subst S;refine k6 (k2 ?_);refine A7 (A6 (A9 Z Z) Z (A6 (A9 Z Z) Z (B0 ?_)));refine k1 (I9 ?_);exact C2 (rs:=[I3 [],E8 2]) (U1 rfl rfl rfl rfl rfl) (by rw[A];rfl)
 have D:i<formsL.length:=by have h:=A0 d;show i<10;omega
 obtain⟨f,H⟩:∃f,f=formsL[i]:=⟨_,rfl⟩
 have hv:formsL[i]?=some f:=by rw[H];exact WT D
 have hw:=JT (XL hv);rw[XA D,<-H,BI]at A;refine k5 (k1 (k2 (k3 (k2 ?_))));refine A7 (A6 (B8 Z (.pure _ _ _ _) Z (by omega) hv) Z (A6 (G7 Z Z) Z (D6 (I1 5 Z) Z (F7 (C1 TySz.out Z Z Z Z Z Z) (B0 ?_)))));have y:((if decide (f.kind≠c.Kind)=true then true else !(f.dense == c.Dense))=true)↔(f.kind≠c.Kind\/f.dense≠c.Dense):=by cases f.dense<;>cases c.Dense<;>simp
 refine k1 (k2 (k2 ?_));refine A7 (A6 (B1 Z) Z (A6 (B2 Z Z Z) Z (A6 (B1 Z) Z (A6 (B2 Z Z Z) Z (A6 (N5 Z Z) Z (A6 (A8 Z Z) Z (B6 Z Z Z Z (fun g=>by rw[g];exact B1 Z) ?_)))))));refine B6 Z Z Z Z (fun g=>by rw[g];exact B2 Z Z Z) ?_;refine B6 Z Z Z Z (fun g=>by rw[g];exact B1 Z) ?_;refine B6 Z Z Z Z (fun g=>by rw[g];exact B2 Z Z Z) ?_;refine B6 Z Z Z Z (fun g=>by rw[g];exact OG Z Z TyBool.out) ?_;refine A6 (C6 Z (fun h=>by first | rfl | (rw[h];rfl)) (fun h=>by first | rfl | (rw[h];rfl))) Z ?_;refine B0 ?_;refine k1 ?_;refine B9 rfl (fun d=>?_) (fun d=>?_)
 ·have E:f.kind≠c.Kind\/f.dense≠c.Dense:=y.1 d;rw[A4 E]at A;refine k6 (k7 (k8 Z (k1 ?_)));refine A7 (A6 (D5 Z Z (by omega)) Z (A6 (A8 Z Z) Z (B0 ?_)));refine k1 ?_;exact⟨i+1,⟨D,A⟩,by have:formsL.length=10:=rfl;omega,Sees.of ⟨B4 rfl,B4 rfl,B4 rfl,B4 rfl,trivial⟩ ⟨rfl,trivial⟩⟩
 have E:¬(f.kind≠c.Kind\/f.dense≠c.Dense):=fun h=>by rw[y.2 h]at d;cases d
 rw[A5 E]at A;refine Y9 [(1,.s (.one (.ref 1 0))),(5,.s (.one (.ref 5 0))),(10,E3 CForm 6 sO formsL),(11,C7 10),(12,C7 i)] [(1,.box (lW c)),(5,.box (ND f))] (Sees.of ⟨B4 rfl,B4 rfl,B4 rfl,B4 rfl,B4 rfl,trivial⟩ ⟨rfl,rfl,trivial⟩) ?_;refine k5 (k1 (k2 ?_));refine A7 (A6 (F1 Z Z Z) Z (D6 (I1 6 Z) Z (F7 (C1 TySz.out Z Z Z Z Z Z) (B0 ?_))));refine k1 (k2 ?_);refine A7 (A6 (B1 Z) Z (A6 (B2 Z Z Z) Z (A6 (A9 Z Z) Z (B0 ?_))));refine k1 (k2 (k2 ?_));refine A7 (A6 (F1 Z Z Z) Z (Z7 (lC f Z Z) Z Z Z ?_));rintro _ _ ⟨rfl,rfl⟩;refine A6 (zS Z Z) Z (A6 (A8 Z Z) Z (B0 ?_));refine k1 (k3 ?_);obtain⟨L,O⟩:∃L,L=V5 f:=⟨_,rfl⟩
 have P:=BG f;rw[<-O]at P ⊢;refine E4 (X:=Nat×Cmd×Str) (fun x=>([(5,.s (.one (.ref 5 0))),(6,.s (.one (.ref 6 0))),(7,P2 x.2.2),(32,.s (.one (.mut 751))),(33,C7 L.length),(34,C7 x.1)],[(5,.box (ND f)),(6,.box (lW x.2.1)),(751,IH L)])) (fun x=>x.1<=L.length/\x.2.2.length<=8+11*x.1/\x.2.1.Text=c.Text/\eD L c f.word=eD (L.drop x.1) x.2.1 x.2.2) (fun x=>L.length-x.1) (0,c,f.word) ⟨Nat.zero_le _,by dsimp only;omega,rfl,rfl⟩ (Sees.of ⟨B4 rfl,B4 rfl,B4 rfl,B4 rfl,B4 rfl,B4 rfl,trivial⟩ ⟨rfl,rfl,rfl,trivial⟩) ?_;rintro⟨j,k,s⟩ ⟨hj,hs,v,z⟩;dsimp only at hj hs v z ⊢;refine k2 ?_;refine A7 (A6 (F3 Z Z) Z (B0 ?_));refine k1 (k2 ?_);refine B9 rfl (fun d=>?_) (fun d=>?_)
 ·have C:j<L.length:=by have:=A0 d;omega
  obtain⟨o,Y⟩:∃o,o=L[j]:=⟨_,rfl⟩
  have M:L[j]?=some o:=by rw[Y];exact WT C
  have F:=HH (f:=f) (o:=o) (by rw[<-O];exact XL M);have B:=NG (c:=k) F;have V:(ML L)[((j:Nat):Int).toNat*1+0]?=some (.ref 6 o):=by rw[WV,Nat.mul_one,Nat.add_zero,YE,M];rfl
  have I:Nat.ble (o+1) 6=true:=by rcases F with rfl | rfl | rfl<;>rfl
  rw[XA C,<-Y,eD]at z;refine k5 (k1 (k2 (k3 (k2 ?_))));refine A7 (A6 (fM Z Z Z (by omega) (by omega)) Z (A6 (uS Z Z V) Z (A6 (A9 Z Z) Z (B0 ?_))));refine k1 (k2 (k2 ?_));refine A7 (A6 (A8 Z Z) Z (A6 (B5 Z) Z (A6 (B2 Z Z (B)) Z (A6 (F3 Z Z) Z (A6 (A8 Z Z) Z (B6 Z Z Z Z (fun g=>by rw[g];exact A8 Z Z) ?_))))));refine B6 Z Z Z Z (fun g=>by rw[g];exact B5 Z) ?_;refine B6 Z Z Z Z (fun g=>by rw[g];exact B2 Z Z (B)) ?_;refine B6 Z Z Z Z (fun g=>by rw[g];exact P5 Z Z) ?_;refine A6 (C6 Z (fun h=>by first | rfl | (rw[h];rfl)) (fun h=>by first | rfl | (rw[h];rfl))) Z ?_;refine B0 ?_;refine k1 ?_;refine B9 rfl (fun d=>?_) (fun d=>?_)
  ·have G:k.get o<0\/2147483647<k.get o:=A0 (or_pick.symm.trans d);rw[A4 G]at z;refine k2 ?_;refine A7 (A6 (A9 Z Z) Z (A6 (A9 Z Z) Z (B0 ?_)));refine k1 (I9 (N4 (W5 (N4 (N4 (W5 (N4 (W5 (N4 (N4 (W5 (N4 ?_))))))))))));exact C2 (rs:=[I3 [],E8 2]) (U1 rfl rfl rfl rfl rfl) (by rw[A];unfold pV;rw[<-O,z])
  have U:¬(k.get o<0\/2147483647<k.get o):=A1 (or_pick.symm.trans d);rw[A5 U]at z;have ab:=r5 (k.get o);refine k5 (k1 (k2 ?_));refine A7 (A6 (A8 Z Z) Z (A6 (A8 Z Z) Z (A6 (B5 Z) Z (A6 (B2 Z Z (B)) Z (D1 (p7 (k.get o)) Z Z Z ?_)))));rintro _ rfl;refine A6 (K8 Z Z (by (simp;omega))) Z (A6 (K8 Z Z (by (simp;omega))) Z (A6 (A9 Z Z) Z (B0 ?_)));refine k1 ?_;refine A7 (A6 (A8 Z Z) Z (A6 (B5 Z) Z (F7 (C1 TySz.out Z Z Z Z Z (I)) (B0 ?_))));refine k4 (k1 ?_);refine A7 (A6 (D5 Z Z (by omega)) Z (A6 (A8 Z Z) Z (B0 ?_)));refine k1 ?_;refine⟨(j+1,k.put o 0,s++([32]++m8 (k.get o))),⟨C,?_,?_,z⟩,by dsimp only;omega,(by dsimp only;rw[<-BH 0 F];exact (Sees.of ⟨B4 rfl,B4 rfl,B4 rfl,B4 rfl,B4 rfl,B4 rfl,trivial⟩ ⟨rfl,rfl,rfl,trivial⟩))⟩
  ·dsimp only;simp only[WX,WW,XD];omega
  ·dsimp only;rw[yP];exact v
 have T:j=L.length:=by have:=A1 d;omega
 rw[T,List.drop_length,eD]at z;obtain⟨w,l⟩:∃w:Cmd,w=if f.text=true then { k with Text:=[] } else k:=⟨_,rfl⟩
 obtain⟨s2,q⟩:∃s2:Str,s2=if f.text=true then s++([32]++c8 k.Text) else s:=⟨_,rfl⟩
 have K:jZ c=nN f w s2:=by
  rw[A];unfold pV;rw[<-O,z,l,q];dsimp only;split<;>rfl
 have ac:=AW k.Text;have W:k.Text.length<=1048576:=by rw[v];exact Q
 refine k6 (k2 (k2 ?_));refine A7 (A6 (B1 Z) Z (A6 (B2 Z Z Z) Z (B0 ?_)));refine k1 ?_;refine bF [(5,.s (.one (.ref 5 0))),(6,.s (.one (.ref 6 0))),(7,P2 s2)] [(5,.box (ND f)),(6,.box (lW w))] ?_ ?_
 ·skip;refine B9 rfl (fun d=>?_) (fun d=>?_)
  ·have hb:f.text=true:=d;rw[A4 hb]at l q;subst l q;refine k2 ?_;refine A7 (A6 (A8 Z Z) Z (A6 (B1 Z) Z (A6 (B2 Z Z Z) Z (D1 (uW k.Text (by rw[v];omega)) Z Z Z ?_))));rintro _ rfl;refine A6 (K8 Z Z (by (simp;omega))) Z (A6 (K8 Z Z (by (simp;omega))) Z (A6 (A9 Z Z) Z (B0 ?_)));refine k1 ?_;refine A7 (A6 (B1 Z) Z (F7 (C1 TySz.out Z Z Z Z Z Z) (B0 ?_)));refine k1 ?_;exact Sees.of ⟨B4 rfl,B4 rfl,B4 rfl,trivial⟩ ⟨rfl,rfl,trivial⟩
  ·have hb:f.text=false:=d;rw[A5 (by rw[hb];decide)]at l q;subst l q;refine k5 (k1 ?_);exact Sees.of ⟨B4 rfl,B4 rfl,B4 rfl,trivial⟩ ⟨rfl,rfl,trivial⟩
 refine k2 (k2 ?_);refine A7 (A6 (F1 Z Z Z) Z (A6 (B1 Z) Z (A6 (B2 Z Z Z) Z (A6 (B1 Z) Z (A6 (B2 Z Z Z) Z (A6 (H1 Z) Z (A6 (LM (NC w) (NC ⟨f.kind,0,0,0,f.dense,[]⟩) Z Z Z Z (RL w ⟨f.kind,0,0,0,f.dense,[]⟩)) Z (B0 ?_))))))));refine k1 ?_;refine B9 rfl (fun d=>?_) (fun d=>?_)
 ·have J:¬w=⟨f.kind,0,0,0,f.dense,[]⟩:=by simpa using d
  refine k2 ?_;refine A7 (A6 (A9 Z Z) Z (A6 (A9 Z Z) Z (B0 ?_)));refine k1 (I9 (N4 (W5 (N4 (N4 (W5 (N4 ?_)))))));exact C2 (rs:=[I3 [],E8 2]) (U1 rfl rfl rfl rfl rfl) (by rw[K];unfold nN;rw[A5 J])
 ·have R:w=⟨f.kind,0,0,0,f.dense,[]⟩:=by simpa using d
  refine k5 (k1 (k2 ?_));refine A7 (A6 (A8 Z Z) Z (A6 (A9 Z Z) Z (A6 (A9 Z Z) Z (B0 ?_))));refine k1 (I9 (W5 (N4 (N4 (W5 (N4 ?_))))));exact C2 (rs:=[I3 s2,E8 0]) (U1 rfl rfl rfl rfl rfl) (by rw[K];unfold nN;rw[A4 R])
theorem gD{s:Str}{i:Nat}(h:i<s.length):s[i]?=some (s.getD i 0):=by simp[h]
def lD(s:Str)(i:Nat):Bool:=decide ((i<s.length/\48<=(s.getD i 0).toNat)/\(s.getD i 0).toNat<=57)
theorem DR(s:Str)(i:Nat):lD s i=match s[i]? with | some c=>jY c | none=>false:=by
 unfold lD jY;by_cases h:i<s.length
 ·rw[gD h];simp[h]
 ·rw[XP (by omega)];simp[h]
theorem OX(s:Str)(i:Nat):(P4 (s.drop i)).length<=s.length-i:=by
 unfold P4;have:=(List.takeWhile_sublist jY (l:=s.drop i)).length_le;rw[XS]at this;exact this
theorem y8{p:UInt8->Bool}:∀(s:Str) (k:Nat),k<=(s.takeWhile p).length->(match s[k]? with | some c=>p c | none=>false)=decide (k<(s.takeWhile p).length)
 | [],k,h=>by simp at h ⊢
 | c::r,0,h=>by by_cases a:p c=true<;>simp[List.takeWhile_cons,a]
 | c::r,k+1,h=>by
  by_cases a:p c=true
  ·rw[List.takeWhile_cons,A4 a,WW]at h ⊢;have:=y8 (p:=p) r k (by omega);rw[List.getElem?_cons_succ,this];simp
  ·rw[List.takeWhile_cons,A5 a]at h;simp at h
theorem iR{p:UInt8->Bool}:∀(s:Str) (k:Nat),k<(s.takeWhile p).length->s[k]?=(s.takeWhile p)[k]?
 | [],k,h=>by simp at h
 | c::r,k,h=>by
  by_cases a:p c=true
  ·rw[List.takeWhile_cons,A4 a]at h ⊢;cases k with
   | zero=>rfl
   | succ k=>rw[List.getElem?_cons_succ,List.getElem?_cons_succ];exact iR (p:=p) r k (by simpa using h)
  ·rw[List.takeWhile_cons,A5 a]at h;simp at h
theorem vA(s:Str)(i k:Nat)(h:k<=(P4 (s.drop i)).length):lD s (i+k)=decide (k<(P4 (s.drop i)).length):=by
 rw[DR,<-XY];exact y8 (s.drop i) k h
theorem IJ{s:Str}{i k:Nat}(h:k<(P4 (s.drop i)).length):s[i+k]?=some ((P4 (s.drop i)).getD k 0)/\48<=((P4 (s.drop i)).getD k 0).toNat/\((P4 (s.drop i)).getD k 0).toNat<=57 /\
  eU ((P4 (s.drop i)).take (k+1))=10*eU ((P4 (s.drop i)).take k)+(((P4 (s.drop i)).getD k 0).toNat-48):=by
 have d:s[i+k]?=(P4 (s.drop i))[k]?:=by rw[<-XY];exact iR _ _ h
 have c:=gD h;have b:jY ((P4 (s.drop i)).getD k 0)=true:=by
  have m:(P4 (s.drop i)).getD k 0∈(s.drop i).takeWhile jY:=XL c;exact List.all_eq_true.1 List.all_takeWhile _ m
 unfold jY at b;have b:=A0 b;refine⟨by rw[d,c],b.1,b.2,?_⟩;obtain⟨j,f⟩:=List.getElem?_eq_some_iff.1 c;rw[XZ j,JS,f]
theorem MM(n:Nat)(h:48<=n)(b:n<=57):IntKind.i64.wrap (IntKind.u8.wrap ((n:Int)-48))=((n-48:Nat):Int):=by
 have:∀k:Fin 10,IntKind.i64.wrap (IntKind.u8.wrap (((k.1+48:Nat):Int)-48))=((k.1:Nat):Int):=by decide
 have a:=this ⟨n-48,by omega⟩;dsimp only at a;rw[show n-48+48=n by omega]at a;exact a
def AJ(s:Str)(i:Nat):List PV:=match oU (s.drop i) with
 | none=>[E8 0,E8 0,H6 false]
 | some (n,k)=>[E8 n,E8 ((i+k:Nat):Int),H6 true]
theorem vB(s:Str)(i:Nat):FnOk Tryz.prog 42 [I3 s,E8 i] (fun rs=>rs=[H6 (lD s i)]):=by
 refine FnOk.intro Tryz.func42 (by decide) Z Z Z Z ?_;refine k2 ?_;refine A7 (A6 (A9 Z Z) Z (B0 ?_));refine k1 (k2 ?_);refine A7 (A6 (A8 Z Z) Z (A6 (A8 Z Z) Z (A6 (P6 Z) Z (A6 (F3 Z Z) Z (A6 (A8 Z Z) Z (B6 Z Z Z Z (fun a=>by rw[a];exact A8 Z Z) ?_))))));refine B6 Z Z Z Z (fun a=>by rw[a];exact A8 Z Z) ?_;refine B6 Z Z Z Z (fun a=>by have b:=a;(try simp at b);rw[a];exact S2 Z Z (by omega) (gD (by omega))) ?_;refine B6 Z Z Z Z (fun a=>by rw[a];exact U7 Z Z) ?_;refine A6 (C6 Z (fun h=>by first | rfl | (rw[h];rfl)) (fun h=>by first | rfl | (rw[h];rfl))) Z ?_;refine A6 (A8 Z Z) Z (B6 Z Z Z Z (fun a=>by rw[a];exact A8 Z Z) ?_);refine B6 Z Z Z Z (fun a=>by rw[a];exact A8 Z Z) ?_;refine B6 Z Z Z Z (fun a=>by have b:=a;(try simp at b);rw[a];exact S2 Z Z (by omega) (gD (by omega))) ?_;refine B6 Z Z Z Z (fun a=>by rw[a];exact kL Z Z) ?_;refine A6 (C6 Z (fun h=>by first | rfl | (rw[h];rfl)) (fun h=>by first | rfl | (rw[h];rfl))) Z ?_;refine A6 (A9 Z Z) Z (B0 ?_);refine k1 (I9 ?_);refine C2 (J5 Z Z Z) ?_;simp only[and_pick];unfold lD
 congr 4
 congr 1
 simp;omega
theorem DS(s:Str)(i:Nat)(Y:i<=s.length)(hs:s.length<=1073741824):FnOk Tryz.prog 15 [I3 s,E8 i] (fun rs=>rs=AJ s i):=by
 obtain⟨f,j⟩:∃f,f=P4 (s.drop i):=⟨_,rfl⟩
 have M:=OX s i;have I:=vA s i 0 (Nat.zero_le _);rw[Nat.add_zero]at I;rw[<-j]at M I;refine FnOk.intro Tryz.func15 (by decide) Z Z Z Z ?_;refine k2 ?_;refine A7 (A6 (A9 Z Z) Z (A6 (A9 Z Z) Z (A6 (A9 Z Z) Z (B0 ?_))));refine k1 (k2 (k2 ?_));refine A7 (A6 (A8 Z Z) Z (A6 (F3 Z Z) Z (A6 (A8 Z Z) Z (B6 Z Z Z Z (fun b=>by rw[b];exact A8 Z Z) ?_))));refine B6 Z Z Z Z (fun b=>by rw[b];exact A8 Z Z) ?_;refine B6 Z Z Z Z (fun b=>by have C:=b;(try simp at C);rw[b];exact I4 (vB s i) Z Z) ?_;refine B6 Z Z Z Z (fun b=>by rw[b];exact N2 Z) ?_;refine A6 (C6 Z (fun h=>by first | rfl | (rw[h];rfl)) (fun h=>by first | rfl | (rw[h];rfl))) Z ?_;refine B0 ?_;rw[I];refine k1 ?_;by_cases P:f.length=0
 ·refine B9 rfl (fun w=>?_) (fun w=>?_);rotate_left
  ·exfalso;revert w;simp[P]
  refine k2 ?_;refine A7 (A6 (A9 Z Z) Z (A6 (A9 Z Z) Z (A6 (A9 Z Z) Z (B0 ?_))));refine k1 (I9 (N4 ?_));refine C2 (rs:=[E8 0,E8 0,H6 false]) (QR Z Z Z Z Z Z Z) ?_;unfold AJ oU;rw[<-j,A4 (.inl (List.length_eq_zero_iff.1 P))]
 refine B9 rfl (fun w=>?_) (fun w=>?_)
 ·exfalso;revert w;simp[show 0<f.length by omega]
 refine k5 (k1 (k2 ?_));refine A7 (A6 (A8 Z Z) Z (A6 (A9 Z Z) Z (A6 (A9 Z Z) Z (B0 ?_))));refine k1 (k2 (k3 ?_));refine E4 (X:=Nat) (fun k=>([(0,P2 s),(1,C7 i),(7,C7 ((min (eU (f.take k)) 2147483648:Nat):Int)),(8,C7 ((i+k:Nat):Int))],[])) (fun k=>k<=f.length) (fun k=>f.length-k) 0 (Nat.zero_le _) (Sees.of ⟨B4 rfl,B4 rfl,B4 rfl,B4 rfl,trivial⟩ trivial) ?_;intro k R;dsimp only at R ⊢;have y:=vA s i k (by rw[<-j];exact R);rw[<-j]at y;refine k2 (k2 ?_);refine A7 (A6 (A8 Z Z) Z (A6 (A8 Z Z) Z (D1 (vB s (i+k)) Z Z Z ?_)));rintro _ rfl;refine B0 ?_;rw[y];refine k1 ?_;refine B9 rfl (fun w=>?_) (fun w=>?_)
 ·have A:k<f.length:=A0 w;obtain⟨g1,F,G,H⟩:=IJ (s:=s) (i:=i) (k:=k) (by rw[<-j];exact A);rw[<-j]at g1 F G H;obtain⟨c,U⟩:∃c,c=f.getD k 0:=⟨_,rfl⟩
  rw[<-U]at g1 F G H;obtain⟨v,O⟩:∃v,v=min (eU (f.take k)) 2147483648:=⟨_,rfl⟩
  have V:v<=2147483648:=by omega
  have B:min (eU (f.take (k+1))) 2147483648=min (10*v+(c.toNat-48)) 2147483648:=by rw[H];omega
  rw[<-O];have z:=MM c.toNat F G;refine k5 (k1 (k2 (k3 ?_)));refine A7 (A6 (A8 Z Z) Z (A6 (cO Z Z (by omega)) Z (A6 (A8 Z Z) Z (A6 (A8 Z Z) Z (A6 (S2 Z Z (by omega) g1) Z (A6 (FW Z Z) Z (A6 (V0 Z) Z (A6 (D5 Z Z (by (rw[z];omega))) Z ?_))))))));refine A6 (zE Z Z) Z (A6 (A9 Z Z) Z (B0 ?_));refine k4 (k1 ?_);refine A7 (A6 (A8 Z Z) Z (A6 (D5 Z Z (by omega)) Z (A6 (A9 Z Z) Z (B0 ?_))));refine k1 ?_;refine⟨k+1,A,by omega,?_⟩;rw[B];refine Sees.of ⟨⟨_,rfl,.same _⟩,⟨_,rfl,.same _⟩,⟨_,rfl,.eq ?_⟩,⟨_,rfl,.eq ?_⟩,trivial⟩ trivial
  ·rw[z]
   congr 6
   split<;>omega
  ·congr 6
 ·have L:k=f.length:=by have:¬k<f.length:=A1 w;omega
  subst L;rw[XF];have D:i<s.length:=by omega
  refine k6 (k2 (k2 ?_));refine A7 (A6 (A8 Z Z) Z (A6 (P5 Z Z) Z (A6 (A8 Z Z) Z (B6 Z Z Z Z (fun b=>by rw[b];exact A8 Z Z) ?_))));refine B6 Z Z Z Z (fun b=>by rw[b];exact A8 Z Z) ?_;refine B6 Z Z Z Z (fun b=>by have C:=b;(try simp at C);rw[b];exact S2 Z Z (by omega) (gD D)) ?_;refine B6 Z Z Z Z (fun b=>by rw[b];exact K4 Z Z) ?_;refine B6 Z Z Z Z (fun b=>by rw[b];exact A8 Z Z) ?_;refine l5 Z Z Z (.gd (.val _)) Z (fun b=>by obtain⟨p,u⟩:=M4 b;(try rw[p]);(try rw[u]);exact A8 Z Z) ?_;refine l5 Z Z Z (.gd (.val _)) Z (fun b=>by obtain⟨p,u⟩:=M4 b;(try rw[p]);(try rw[u]);exact A8 Z Z) ?_;refine l5 Z Z Z (.gd (.val _)) Z (fun b=>by have C:=b;(try simp at C);obtain⟨p,u⟩:=M4 b;(try rw[p]);(try rw[u]);exact D5 Z Z (by omega)) ?_;refine l5 Z Z Z (.gd (.val _)) Z (fun b=>by obtain⟨p,u⟩:=M4 b;(try rw[p]);(try rw[u]);exact P5 Z Z) ?_;refine B6 Z Z Z Z (fun b=>by rw[b];exact C6 Z (fun h=>by first | rfl | (rw[h];rfl)) (fun h=>by first | rfl | (rw[h];rfl))) ?_;refine A6 (C6 Z (fun h=>by first | rfl | (rw[h];rfl)) (fun h=>by first | rfl | (rw[h];rfl))) Z ?_;refine B0 ?_;refine k1 ?_;have K:(s.drop i).head?=some (s.getD i 0):=by rw[List.head?_drop,gD D]
  simp only[and_pick,or_pick];have x:(P4 (s.drop i)=[]\/((s.drop i).head?=some 48/\1<(P4 (s.drop i)).length)\/2147483647<eU (P4 (s.drop i)))↔(2147483647<((min (eU f) 2147483648:Nat):Int)\/(((s.getD i 0).toNat:Int)=48/\(i:Int)+1<((i+f.length:Nat):Int))):=by
   rw[<-j,K];have S:f≠[]:=fun e=>P (by rw[e];rfl);have T:(some (s.getD i 0)=some 48)↔((s.getD i 0).toNat:Int)=48:=by
    rw[Option.some.injEq,<-UInt8.toNat_inj];have:(48:UInt8).toNat=48:=rfl;omega
   simp only[S,false_or,T];omega
  refine B9 rfl (fun w=>?_) (fun w=>?_)
  ·have E:=A0 w;refine k2 ?_;refine A7 (A6 (A9 Z Z) Z (A6 (A9 Z Z) Z (A6 (A9 Z Z) Z (B0 ?_))));refine k1 (I9 (N4 ?_));refine C2 (rs:=[E8 0,E8 0,H6 false]) (QR Z Z Z Z Z Z Z) ?_;unfold AJ oU;rw[A4 (x.2 (by first | exact E | simpa using E))]
  ·have E:=A1 w;have J:¬(P4 (s.drop i)=[]\/((s.drop i).head?=some 48/\1<(P4 (s.drop i)).length)\/2147483647<eU (P4 (s.drop i))):=fun Q=>E (by first | exact x.1 Q | simpa using x.1 Q);refine k5 (k1 (k2 ?_));refine A7 (A6 (A8 Z Z) Z (A6 (A8 Z Z) Z (A6 (A9 Z Z) Z (A6 (A9 Z Z) Z (A6 (A9 Z Z) Z (B0 ?_))))));refine k1 (I9 ?_);refine C2 (rs:=[E8 ((min (eU f) 2147483648:Nat):Int),E8 ((i+f.length:Nat):Int),H6 true]) (QR Z Z Z Z Z Z Z) ?_;unfold AJ oU;rw[A5 J,<-j];have W:eU f<=2147483647:=by
    rw[<-j]at J;by_cases O:eU f<=2147483647
    ·exact O
    ·exact absurd (.inr (.inr (by omega))) J
   rw[show min (eU f) 2147483648=eU f by omega]
theorem IK{s:Str}{i n k:Nat}(h:oU (s.drop i)=some (n,k)):AJ s i=[E8 n,E8 ((i+k:Nat):Int),H6 true]:=by unfold AJ;rw[h]
theorem IL{s:Str}{i:Nat}(h:oU (s.drop i)=none):AJ s i=[E8 0,E8 0,H6 false]:=by unfold AJ;rw[h]
abbrev AK(s:Str)(i:Nat):Ob:=.box [.p (.v (.string ⟨s.toArray⟩)),.p (.v (.int .i64 (i:Int)))]
abbrev VU(b:Bool):S1:=.one (.p (.v (.bool b)))
def QG(c:UInt8):Prop:=48<=c.toNat/\c.toNat<=55
def AM(s:Str)(i q:Nat):Prop:=i+q<s.length/\QG (s.getD (i+q) 0)
instance (s:Str) (i q:Nat):Decidable (AM s i q):=by unfold AM QG;exact inferInstance
theorem QY{b:Nat}{x y:Ob}{ob:Obs}:∀k o,C5 ((b,x)::ob) k=some o->C5 ((b,x)::(b,y)::ob) k=some o:=by
 intro k o a;by_cases c:b=k
 ·subst c;rw[F4]at a ⊢;exact a
 ·rw[C8 c]at a ⊢;rw[C8 c];exact a
theorem xU{p:UInt8->Bool}(s:Str)(i:Nat):((s.drop i).takeWhile p).length<=s.length-i:=by
 have:=(List.takeWhile_sublist p (l:=s.drop i)).length_le;rw[XS]at this;exact this
theorem fN{p:UInt8->Bool}:∀(s:Str),s.take (s.takeWhile p).length=s.takeWhile p
 | []=>rfl
 | c::r=>by
  by_cases a:p c=true
  ·rw[List.takeWhile_cons,A4 a,WW,List.take_succ_cons,fN r]
  ·rw[List.takeWhile_cons,A5 a];rfl
theorem IM{gf:Fr}{ob:Obs}(s:Str)(i:Nat)(w:Str)(J:i<s.length)(O:s.length<=16777216)(m:(s.drop i).takeWhile R9=w)(v:w≠[])(F:C5 ob 705=some (AK s i)) :
  AL.Met Tryz.prog 40 [.one (.ref 705 0)] gf ob [] (fun rs ob'=>rs=[(I3 w).s1,VU true]/\ob'=(705,AK s (i+w.length))::ob):=by
 have K:=xU (p:=R9) s i;rw[m]at K;have B:w.all R9=true:=by rw[<-m];exact List.all_takeWhile
 have q:¬(s.getD i 0).toNat=34:=by
  intro H;have D:=y8 (p:=R9) (s.drop i) 0 (Nat.zero_le _);rw[m,XY,Nat.add_zero,gD J]at D;have G:R9 (s.getD i 0)=true:=by
   have A:R9 (s.getD i 0)=decide (0<w.length):=D;rw[A];exact A2 (List.length_pos_iff.2 v)
  have M:=A0 G;omega
 refine AL.Met.introH Tryz.func40 (by decide) rfl rfl rfl (fun y=>?_);refine G8 (VW (l:=[(0,.s (.one (.ref 705 0)))]) (ob':=(705,AK s i)::ob) ⟨B4 rfl,trivial⟩ y (by repeat (first | exact C3 | refine C4 rfl ?_)) (G9 (L:=[(705,_)]) ⟨F,trivial⟩ F6)) ?_;refine k2 ?_;refine A7 (A6 (A9 Z Z) Z (A6 (A9 Z Z) Z (B0 ?_)));refine k1 (k2 ?_);refine A7 (A6 (A8 Z Z) Z (A6 (B5 Z) Z (A6 (B1 Z) Z (A6 (B2 Z Z Z) Z (A6 (A9 Z Z) Z (B0 ?_))))));refine k1 (k2 ?_);refine A7 (A6 (A9 Z Z) Z (B0 ?_));refine k1 (k2 (k2 ?_));refine A7 (A6 (A8 Z Z) Z (A6 (A8 Z Z) Z (A6 (B5 Z) Z (A6 (B1 Z) Z (A6 (B2 Z Z Z) Z (A6 (P6 Z) Z (A6 (F3 Z Z) Z (A6 (A8 Z Z) Z (B6 Z Z Z Z (fun b=>by rw[b];exact A8 Z Z) ?_)))))))));refine B6 Z Z Z Z (fun b=>by rw[b];exact B5 Z) ?_;refine B6 Z Z Z Z (fun b=>by rw[b];exact B1 Z) ?_;refine B6 Z Z Z Z (fun b=>by rw[b];exact B2 Z Z Z) ?_;refine B6 Z Z Z Z (fun b=>by rw[b];exact A8 Z Z) ?_;refine B6 Z Z Z Z (fun b=>by have q:=b;(try simp at q);rw[b];exact S2 Z Z (by omega) (gD (by omega))) ?_;refine B6 Z Z Z Z (fun b=>by rw[b];exact K4 Z Z) ?_;refine A6 (C6 Z (fun h=>by first | rfl | (rw[h];rfl)) (fun h=>by first | rfl | (rw[h];rfl))) Z ?_;refine B0 ?_;simp only[and_pick,WV];refine k1 ?_;refine B9 rfl (fun u=>?_) (fun u=>?_)
 ·exfalso;have:=A0 u;omega
 refine k2 (k3 ?_);refine E4 (X:=Nat) (fun k=>([(0,.s (.one (.ref 705 0))),(4,C7 i)]++gf,(705,AK s (i+k))::ob)) (fun k=>k<=w.length) (fun k=>w.length-k) 0 (Nat.zero_le _) ?_ ?_
 ·exact VW ⟨B4 rfl,B4 rfl,trivial⟩ y (by repeat (first | exact C3 | refine C4 rfl ?_)) (fun _ _ h=>h)
 intro k C;dsimp only at C ⊢;have d:=y8 (p:=R9) (s.drop i) k (by rw[m];exact C);rw[m,XY]at d;obtain⟨c,I⟩:∃c,c=s.getD (i+k) 0:=⟨_,rfl⟩
 have E:i+k<s.length->s[i+k]?=some c:=fun h=>by rw[I];exact gD h
 have j:(if decide (((i+k:Nat):Int)<(s.length:Int))=true then R9 c else false)=decide (k<w.length):=by
  rw[<-d];by_cases g:i+k<s.length
  ·rw[E g,A4 (A2 (by omega))]
  ·rw[XP (by omega),A5 (by simp;omega)]
 refine k2 (k2 ?_);refine D7 (by kernel_rfl) (by kernel_rfl) (B3 (A8 Z Z) Z Z (B3 (B5 Z) Z Z (B3 (B1 Z) Z Z (B3 (B2 Z Z Z) Z Z (B3 (A8 Z Z) Z Z (B3 (B5 Z) Z Z (B3 (B1 Z) Z Z (B3 (B2 Z Z Z) Z Z (B3 (P6 Z) Z Z (B3 (F3 Z Z) Z Z (B3 (A8 Z Z) Z Z (E7 Z Z (fun b=>by rw[b];exact A8 Z Z) Z Z ?_))))))))))));refine E7 Z Z (fun b=>by rw[b];exact B5 Z) Z Z ?_;refine E7 Z Z (fun b=>by rw[b];exact B1 Z) Z Z ?_;refine E7 Z Z (fun b=>by rw[b];exact B2 Z Z Z) Z Z ?_;refine E7 Z Z (fun b=>by rw[b];exact A8 Z Z) Z Z ?_;refine E7 Z Z (fun b=>by rw[b];exact B5 Z) Z Z ?_;refine E7 Z Z (fun b=>by rw[b];exact B1 Z) Z Z ?_;refine E7 Z Z (fun b=>by rw[b];exact B2 Z Z Z) Z Z ?_;refine E7 Z Z (fun b=>by have q:=b;(try simp at q);rw[b];exact S2 Z Z (by omega) (E (by omega))) Z Z ?_;refine E7 Z Z (fun b=>by have q:=b;(try simp at q);rw[b];exact I4 (uV c) Z Z) Z Z ?_;refine B3 (C6 Z (fun h=>by first | rfl | (rw[h];rfl)) (fun h=>by first | rfl | (rw[h];rfl))) Z Z ?_;refine M5 ?_;rw[j];refine k1 ?_;refine B9 rfl (fun u=>?_) (fun u=>?_)
 ·have g:=A0 u;refine k5 (k1 (k3 ?_));refine A7 (A6 (A8 Z Z) Z (A6 (B5 Z) Z (A6 (B1 Z) Z (A6 (B2 Z Z Z) Z (A6 (D5 Z Z (by omega)) Z (A6 (B5 Z) Z (A6 (B1 Z) Z (F7 (C1 TySz.out Z Z Z Z Z Z) (B0 ?_)))))))));refine k4 (k1 ?_);exact⟨k+1,g,by omega,VW ⟨B4 rfl,B4 rfl,trivial⟩ y (by repeat (first | exact C3 | refine C4 rfl ?_)) QY⟩
 have z:k=w.length:=by have:=A1 u;omega
 subst z;refine k6 (k7 (k7 (k8 Z (k1 ?_))));refine D7 (by kernel_rfl) (by kernel_rfl) (B3 (A8 Z Z) Z Z (B3 (B5 Z) Z Z (B3 (B1 Z) Z Z (B3 (B2 Z Z Z) Z Z (B3 (A8 Z Z) Z Z (B3 (A8 Z Z) Z Z (B3 (B5 Z) Z Z (B3 (B1 Z) Z Z (B3 (B2 Z Z Z) Z Z (B3 (qD Z Z Z (by omega) (by omega) (by omega)) Z Z (B3 (A9 Z Z) Z Z (M5 ?_))))))))))));have x:(s.drop i).take (i+w.length-i)=w:=by
  rw[Nat.add_sub_cancel_left]
  conv=>rhs;rw[<-m]
  rw[<-m];exact fN _
 rw[WV,WV,x];refine k1 (k2 ?_);refine D7 (by kernel_rfl) (by kernel_rfl) (B3 (A8 Z Z) Z Z (B3 (A8 Z Z) Z Z (B3 (I4 (uW w (by omega)) Z Z) Z Z (B3 (A8 Z Z) Z Z (B3 (B5 Z) Z Z (B3 (B1 Z) Z Z (B3 (B2 Z Z Z) Z Z (B3 (A8 Z Z) Z Z (B3 (A8 Z Z) Z Z (B3 (B5 Z) Z Z (B3 (B1 Z) Z Z (B3 (B2 Z Z Z) Z Z (B3 (qD Z Z Z (by omega) (by omega) (by omega)) Z Z (B3 (aV Z Z) Z Z (B3 (A9 Z Z) Z Z (B3 (A9 Z Z) Z Z (M5 ?_)))))))))))))))));rw[WV,WV,x,BK v B];refine k1 (I9 ?_);exact I6 (zG rfl rfl rfl) (by repeat (first | exact C3 | refine C4 rfl ?_ | refine F8 _ ?_)) (fun _ _ h=>h) ⟨(by rw[A2 rfl];rfl),rfl⟩
theorem DT(d:List Str)(B:d≠[])(F:∀w∈d,w≠[]/\w.all R9=true)(P:(T5 d).length<=1048576) :
  FnOk Tryz.prog 13 [I3 (T5 d)] (fun rs=>rs=[aY d,H6 true]):=by
 obtain⟨s,q⟩:∃s,s=T5 d:=⟨_,rfl⟩
 have C:s≠[]:=by
  obtain⟨w,r,rfl⟩:=List.exists_cons_of_ne_nil B;have z:=BJ w r;have L:=List.length_pos_iff.2 (F w (List.mem_cons_self ..)).1;intro e;rw[<-q,e]at z;simp only[XD]at z;omega
 rw[<-q]at P ⊢;refine FnOk.intro Tryz.func13 (by decide) Z Z Z Z ?_;refine k2 ?_;refine A7 (A6 (A9 Z Z) Z (A6 (A9 Z Z) Z (B0 ?_)));refine k1 (k2 (k2 ?_));refine A7 (A6 (A8 Z Z) Z (A6 (aV Z Z) Z (B0 ?_)));refine k1 ?_;refine B9 rfl (fun j=>?_) (fun j=>?_)
 ·exact absurd (A0 j) C
 refine k5 (k1 (k2 ?_));refine A7 (A6 (A8 Z Z) Z (A6 (H1 Z) Z (D6 (j1 705 Z Z Z) Z (A6 (A9 Z Z) Z (B0 ?_)))));refine k1 (k2 ?_);refine A7 (A6 (A8 Z Z) Z (A6 (dI Z Z) Z (A6 (A9 Z Z) Z (B0 ?_))));refine k1 (k2 ?_);refine A7 (D6 (y6 850 _ R8 Z) Z (B0 ?_));refine k1 (k3 ?_);refine E4 (X:=Nat×Nat) (fun x=>([(0,P2 s),(4,.s (.one (.ref 705 0))),(5,.s (.one (.clo 40 [(705,0)] []))),(6,.s (.one (.buf 850 Str 1 R8 (d.take x.1))))],[(705,AK s x.2),(850,.spare (d.take x.1).length 1 9)])) (fun x=>x.1<d.length/\s.drop x.2=T5 (d.drop x.1)/\x.2<s.length) (fun x=>d.length-x.1) (0,0) ⟨List.length_pos_iff.2 B,by rw[List.drop_zero,List.drop_zero];exact q,List.length_pos_iff.2 C⟩ (Sees.of ⟨B4 rfl,B4 rfl,B4 rfl,B4 rfl,trivial⟩ ⟨rfl,rfl,trivial⟩) ?_;rintro⟨k,i⟩ ⟨G,v,M⟩;dsimp only at G v M ⊢;obtain⟨w,E⟩:∃w,w=d[k]:=⟨_,rfl⟩
 have N:d[k]?=some w:=by rw[E];exact WT G
 obtain⟨J,K⟩:=F w (XL N);rw[XA G,<-E]at v;have I:(s.drop i).takeWhile R9=w:=by rw[v];exact JU K _
 have D:d.take (k+1)=d.take k++[w]:=by rw[List.take_add_one,N];rfl
 have hkl:(d.take k).length<=1048576:=by
  have z:=List.length_take_le' k d;have L:=sR d fun w Q=>(F w Q).1;rw[<-q]at L;omega
 have m:=congrArg List.length v;rw[XS]at m;refine k3 (k2 ?_);refine A7 (A6 (A8 Z Z) Z (jH (IM s i w M (by omega) I J Z) Z Z Z Z ?_));rintro _ _ ⟨rfl,rfl⟩;refine A6 (A8 Z Z) Z (A6 (B7 Z Z) Z (A6 (B7 Z Z) Z (A6 (A9 Z Z) Z (A6 (A9 Z Z) Z (B0 ?_)))));refine k1 (k2 (k2 ?_));refine A7 (A6 (A8 Z Z) Z (A6 (N2 Z) Z (B0 ?_)));refine k1 ?_;refine B9 rfl (fun j=>?_) (fun j=>?_)
 ·cases j
 refine k5 (k1 (k2 ?_));refine A7 (A6 (A8 Z Z) Z (A6 (A8 Z Z) Z (A6 (D9 (c:=R8) (ys:=[w]) (D8 Z Z Z Z H5) Z Z Z) Z (D6 (N6 Z Z Z (.pure _ _ _ _) (by (simp only[WW,XD];omega)) Z) Z (A6 (A9 Z Z) Z (B0 ?_))))));refine k1 (k2 (k2 ?_));refine A7 (A6 (A8 Z Z) Z (A6 (B5 Z) Z (A6 (B1 Z) Z (A6 (B2 Z Z Z) Z (A6 (A8 Z Z) Z (A6 (P6 Z) Z (A6 (K4 Z Z) Z (B0 ?_))))))));refine k1 ?_;rcases y:d.drop (k+1) with _ | ⟨x,r⟩
 ·rw[y]at v m;rw[sP]at m;refine B9 rfl (fun j=>?_) (fun j=>?_);rotate_left
  ·exact absurd (show ((i+w.length:Nat):Int)=s.length by omega) (A1 j)
  refine k2 ?_;refine A7 (A6 (A8 Z Z) Z (A6 (A9 Z Z) Z (A6 (A9 Z Z) Z (B0 ?_))));refine k1 (I9 (N4 (W5 (N4 (W5 ?_)))));refine C2 (rs:=[aY (d.take k++[w]),H6 true]) (U1 Z Z Z Z Z) ?_;have O:d=d.take (k+1):=by
   have z:=YH (k+1) d;rw[y,YB]at z;exact z.symm
  rw[<-D,<-O]
 ·rw[y,dB]at v;rw[y,dB,WX,WW]at m;have H:s[i+w.length]?=some 32:=by
   rw[<-XY,v,XJ (Nat.le_refl _),YK];rfl
  refine B9 rfl (fun j=>?_) (fun j=>?_)
  ·have:=A0 j;omega
  refine k5 (k1 (k2 (k2 ?_)));refine A7 (A6 (A8 Z Z) Z (A6 (A8 Z Z) Z (A6 (B5 Z) Z (A6 (B1 Z) Z (A6 (B2 Z Z Z) Z (A6 (S2 Z Z (by omega) (by rw[WV];exact H)) Z ?_))))));refine A6 (N5 Z Z) Z (B0 ?_);refine k1 ?_;refine B9 rfl (fun j=>?_) (fun j=>?_)
  ·exact absurd rfl (A0 j)
  refine k5 (k1 ?_);refine A7 (A6 (A8 Z Z) Z (A6 (B5 Z) Z (A6 (B1 Z) Z (A6 (B2 Z Z Z) Z (A6 (D5 Z Z (by omega)) Z (A6 (B5 Z) Z (A6 (B1 Z) Z (F7 (C1 TySz.out Z Z Z Z Z Z) (B0 ?_)))))))));refine k4 (k1 ?_);have A:k+1<d.length:=by
   have:=congrArg List.length y;rw[XS,WW]at this;omega
  refine⟨(k+1,i+w.length+1),⟨A,?_,by dsimp only;have:=BJ x r;have:=List.length_pos_iff.2 (F x (List.mem_of_mem_drop (by rw[y];exact List.mem_cons_self ..))).1;omega⟩,by dsimp only;omega,?_⟩
  ·dsimp only;rw[y,Nat.add_assoc,<-List.drop_drop,v];exact JX _ _ _
  ·dsimp only;rw[D];exact Sees.of ⟨B4 rfl,B4 rfl,B4 rfl,B4 rfl,trivial⟩ ⟨rfl,rfl,trivial⟩
theorem MN(f:CForm)(c:List Str)(hw:∀w∈c,w.length<=1048576)(hl:c.length<=1048576) :
  FnOk Tryz.prog 157 [NE f,aY c] (fun rs=>rs=[dA ((aN f c).getD nM),H6 (aN f c).isSome]):=by
 have k:=BL f c;obtain⟨L,U⟩:∃L,L=V5 f:=⟨_,rfl⟩
 obtain⟨W,J⟩:∃W,W=iV f c:=⟨_,rfl⟩
 obtain⟨H,B⟩:∃H,H=sQ f c:=⟨_,rfl⟩
 obtain⟨R,hR⟩:∃R,R=aN f c:=⟨_,rfl⟩
 have ac:∀w∈W,w.length<=1048576:=fun w h=>hw w (JV (by rw[<-J];exact h));have ab:=JW f c;have V:=BG f;rw[<-U,<-J,<-B,<-hR]at k;rw[<-J]at ab;rw[<-U]at V;rw[<-hR];refine FnOk.intro Tryz.func157 (by decide) Z Z Z Z ?_;refine k2 ?_;refine A7 (D6 (j1 2 Z Z Z) Z (D6 (I1 4 Z) Z (A6 (A9 Z Z) Z (B0 ?_))));refine k1 (k2 ?_);refine A7 (A6 (B1 Z) Z (A6 (B2 Z Z Z) Z (A6 (B1 Z) Z (A6 (B2 Z Z Z) Z (A6 (H1 Z) Z (D6 (I1 6 Z) Z (F7 (C1 TySz.out Z Z Z Z Z Z) (B0 ?_))))))));refine k1 (k2 ?_);refine A7 (A6 (F1 Z Z Z) Z (Z7 (lC f Z Z) Z Z Z ?_));rintro _ _ ⟨rfl,rfl⟩;refine A6 (A9 Z Z) Z (B0 ?_);rw[<-U];refine k1 (k2 (k2 ?_));refine A7 (A6 (B1 Z) Z (A6 (B2 Z Z Z) Z (B0 ?_)));refine k1 ?_;refine rB (X:=Unit) (fun _=>([(1,E3 Str 1 R8 W),(4,.s (.one (.ref 4 0))),(6,.s (.one (.ref 6 0))),(7,.s (.one (.mut 751)))],[(4,.box (lW nM)),(6,.box (lW H)),(751,IH L)])) (fun _=>¬(f.text=true/\c=[])) ?_ ?_
 ·skip;refine B9 rfl (fun d=>?_) (fun d=>?_)
  ·have hb:f.text=true:=d;refine k2 (k2 ?_);refine A7 (A6 (A8 Z Z) Z (A6 (F0 Z (.pure _ _ _ _)) Z (A6 (K4 Z Z) Z (B0 ?_))));refine k1 ?_;refine B9 rfl (fun d=>?_) (fun d=>?_)
   ·have he:c=[]:=by
     have I:=A0 d;exact List.length_eq_zero_iff.1 (by omega)
    rw[A4 ⟨hb,he⟩]at k;refine k2 ?_;refine A7 (A6 (H1 Z) Z (F7 (C1 TySz.out Z Z Z Z Z Z) (A6 (A9 Z Z) Z (B0 ?_))));refine k1 (I9 (N4 (N4 ?_)));exact C2 (rs:=[dA nM,H6 false]) (kP rfl rfl rfl rfl rfl rfl rfl) (by rw[k];rfl)
   have q:¬c=[]:=fun e=>by
    have I:=A1 d;rw[e]at I;exact I rfl
   have ag:=List.length_pos_iff.2 q;have F:c[((c.length:Int)-1).toNat]?=some (c.getLastD []):=by
    rw[show ((c.length:Int)-1).toNat=c.length-1 by omega,<-List.getLast?_eq_getElem?,List.getLastD_eq_getLast?];cases h:c.getLast? with
    | none=>exact absurd (List.getLast?_eq_none_iff.1 h) q
    | some x=>rfl
   have ae:c.take ((c.length:Int)-1).toNat=W:=by
    rw[J];unfold iV;rw[A4 hb,List.dropLast_eq_take,show ((c.length:Int)-1).toNat=c.length-1 by omega]
   have C:H=⟨f.kind,0,0,0,f.dense,c.getLastD []⟩:=by rw[B];unfold sQ;rw[A4 hb]
   subst C;refine k5 (k1 (k2 ?_));refine A7 (A6 (A8 Z Z) Z (A6 (A8 Z Z) Z (A6 (F0 Z (.pure _ _ _ _)) Z (A6 (O5 Z Z (by omega)) Z (A6 (B8 Z (.pure _ _ _ _) Z (by omega) F) Z (A6 (C0 Z Z) Z (A6 (B1 Z) Z (F7 (C1 TySz.out Z Z Z Z Z Z) (B0 ?_)))))))));refine k1 ?_;refine A7 (A6 (A8 Z Z) Z (A6 (A8 Z Z) Z (A6 (F0 Z (.pure _ _ _ _)) Z (A6 (O5 Z Z (by omega)) Z (A6 (uD Z (.pure _ _ _ _) Z (by omega) (by omega)) Z (A6 (A9 Z Z) Z (B0 ?_)))))));rw[ae];refine k1 ?_;exact⟨(),(fun h=>q h.2),(Sees.of ⟨B4 rfl,B4 rfl,B4 rfl,B4 rfl,trivial⟩ ⟨rfl,rfl,rfl,trivial⟩)⟩
  ·have hb:f.text=false:=d;have C:H=⟨f.kind,0,0,0,f.dense,[]⟩:=by rw[B];unfold sQ;rw[A5 (by rw[hb];decide)]
   have Y:W=c:=by rw[J];unfold iV;rw[A5 (by rw[hb];decide)]
   subst C Y;refine k5 (k1 ?_);exact⟨(),(fun h=>by rw[hb]at h;cases h.1),(Sees.of ⟨B4 rfl,B4 rfl,B4 rfl,B4 rfl,trivial⟩ ⟨rfl,rfl,rfl,trivial⟩)⟩
 rintro _ K;dsimp only;rw[A5 K]at k;refine k2 (k2 ?_);refine A7 (A6 (A8 Z Z) Z (A6 (F0 Z (.pure _ _ _ _)) Z (A6 (A8 Z Z) Z (A6 (zS Z Z) Z (A6 (N5 Z Z) Z (B0 ?_))))));refine k1 ?_;refine B9 rfl (fun d=>?_) (fun d=>?_)
 ·have q:W.length≠L.length:=fun e=>by
   have I:=A0 d;omega
  rw[A4 q]at k;refine k2 ?_;refine A7 (A6 (H1 Z) Z (F7 (C1 TySz.out Z Z Z Z Z Z) (A6 (A9 Z Z) Z (B0 ?_))));refine k1 (I9 (N4 ?_));exact C2 (rs:=[dA nM,H6 false]) (kP rfl rfl rfl rfl rfl rfl rfl) (by rw[k];rfl)
 have A:W.length=L.length:=by have I:=A1 d;omega
 rw[A5 (fun e=>e A)]at k;refine k5 (k1 (k2 (k2 ?_)));refine A7 (A6 (A8 Z Z) Z (A6 (F0 Z (.pure _ _ _ _)) Z (A6 (A8 Z Z) Z (B0 ?_))));refine k1 (k3 ?_);refine E4 (X:=Nat×Cmd) (fun x=>([(4,.s (.one (.ref 4 0))),(6,.s (.one (.ref 6 0))),(7,.s (.one (.mut 751))),(44,E3 Str 1 R8 W),(45,C7 W.length),(46,C7 x.1)],[(4,.box (lW nM)),(6,.box (lW x.2)),(751,IH L)])) (fun x=>x.1<=L.length/\R=eE (L.drop x.1) (W.drop x.1) x.2) (fun x=>L.length-x.1) (0,H) ⟨Nat.zero_le _,k⟩ (Sees.of ⟨B4 rfl,B4 rfl,B4 rfl,B4 rfl,B4 rfl,B4 rfl,trivial⟩ ⟨rfl,rfl,rfl,trivial⟩) ?_;rintro⟨j,cj⟩ ⟨hj,y⟩;dsimp only at hj y ⊢;refine k2 ?_;refine A7 (A6 (F3 Z Z) Z (B0 ?_));refine k1 (k2 ?_);refine B9 rfl (fun d=>?_) (fun d=>?_);rotate_left
 ·have ad:j=L.length:=by have:=A1 d;omega
  rw[ad,List.drop_length,<-A,List.drop_length]at y;unfold eE at y;refine k6 (k2 ?_);refine A7 (A6 (F1 Z Z Z) Z (F7 (C1 TySz.out Z Z Z Z Z Z) (A6 (A9 Z Z) Z (B0 ?_))));refine k1 (I9 ?_);exact C2 (rs:=[dA cj,H6 true]) (kP rfl rfl rfl rfl rfl rfl rfl) (by rw[y];rfl)
 have E:j<L.length:=by have:=A0 d;omega
 have O:j<W.length:=by omega
 obtain⟨o,ho⟩:∃o,o=L[j]:=⟨_,rfl⟩
 have Q:L[j]?=some o:=by rw[ho];exact WT E
 obtain⟨w,T⟩:∃w,w=W[j]:=⟨_,rfl⟩
 have G:W[j]?=some w:=by rw[T];exact WT O
 have ah:=ac w (XL G);have P:=HH (f:=f) (o:=o) (by rw[<-U];exact XL Q);have af:(ML L)[((j:Nat):Int).toNat*1+0]?=some (.ref 6 o):=by rw[WV,Nat.mul_one,Nat.add_zero,YE,Q];rfl
 have M:Nat.ble (o+1) 6=true:=by rcases P with rfl | rfl | rfl<;>rfl
 rw[XA E,<-ho,XA O,<-T,eE]at y;have v:=DS w 0 (Nat.zero_le _) (by omega);cases z:oU w with
 | none =>
  rw[z]at y;rw[IL (by rw[List.drop_zero];exact z)]at v;refine k5 (k1 (k2 (k3 (k2 ?_))));refine A7 (A6 (A8 Z Z) Z (A6 (B8 Z (.pure _ _ _ _) Z (by omega) G) Z (A6 (C0 Z Z) Z (A6 (A9 Z Z) Z (A6 (A9 Z Z) Z (B0 ?_))))));refine k1 (k2 ?_);refine A7 (A6 (A8 Z Z) Z (D1 (v) Z Z Z ?_));rintro _ rfl;refine A6 (A8 Z Z) Z (A6 (B7 Z Z) Z (A6 (B7 Z Z) Z (A6 (B7 Z Z) Z (A6 (A9 Z Z) Z (A6 (A9 Z Z) Z (A6 (A9 Z Z) Z (B0 ?_)))))));refine k1 (k2 (k2 ?_));refine A7 (A6 (A8 Z Z) Z (A6 (N2 Z) Z (A6 (A8 Z Z) Z (B6 Z Z Z Z (fun l=>by rw[l];exact A8 Z Z) ?_))));refine B6 Z Z Z Z (fun l=>by rw[l];exact A8 Z Z) ?_;refine B6 Z Z Z Z (fun l=>by rw[l];exact P6 Z) ?_;refine B6 Z Z Z Z (fun l=>by rw[l];exact N5 Z Z) ?_;refine A6 (C6 Z (fun h=>by first | rfl | (rw[h];rfl)) (fun h=>by first | rfl | (rw[h];rfl))) Z ?_;refine B0 ?_;refine k1 ?_;refine B9 rfl (fun d=>?_) (fun d=>?_);rotate_left
  ·exact absurd d (by simp)
  refine k2 ?_;refine A7 (A6 (H1 Z) Z (F7 (C1 TySz.out Z Z Z Z Z Z) (A6 (A9 Z Z) Z (B0 ?_))));refine k1 (I9 (N4 (W5 (N4 (N4 (W5 (N4 ?_)))))));exact C2 (rs:=[dA nM,H6 false]) (kP rfl rfl rfl rfl rfl rfl rfl) (by rw[y];rfl)
 | some p =>
  obtain⟨n,e⟩:=p;rw[z]at y;rw[IK (by rw[List.drop_zero];exact z)]at v;dsimp only at y;refine k5 (k1 (k2 (k3 (k2 ?_))));refine A7 (A6 (A8 Z Z) Z (A6 (B8 Z (.pure _ _ _ _) Z (by omega) G) Z (A6 (C0 Z Z) Z (A6 (A9 Z Z) Z (A6 (A9 Z Z) Z (B0 ?_))))));refine k1 (k2 ?_);refine A7 (A6 (A8 Z Z) Z (D1 (v) Z Z Z ?_));rintro _ rfl;refine A6 (A8 Z Z) Z (A6 (B7 Z Z) Z (A6 (B7 Z Z) Z (A6 (B7 Z Z) Z (A6 (A9 Z Z) Z (A6 (A9 Z Z) Z (A6 (A9 Z Z) Z (B0 ?_)))))));refine k1 (k2 (k2 ?_));refine A7 (A6 (A8 Z Z) Z (A6 (N2 Z) Z (A6 (A8 Z Z) Z (B6 Z Z Z Z (fun l=>by rw[l];exact A8 Z Z) ?_))));refine B6 Z Z Z Z (fun l=>by rw[l];exact A8 Z Z) ?_;refine B6 Z Z Z Z (fun l=>by rw[l];exact P6 Z) ?_;refine B6 Z Z Z Z (fun l=>by rw[l];exact N5 Z Z) ?_;refine A6 (C6 Z (fun h=>by first | rfl | (rw[h];rfl)) (fun h=>by first | rfl | (rw[h];rfl))) Z ?_;refine B0 ?_;refine k1 ?_;refine B9 rfl (fun d=>?_) (fun d=>?_)
  ·have q:¬e=w.length:=fun h=>by
    revert d;simp[h]
   rw[A5 q]at y;refine k2 ?_;refine A7 (A6 (H1 Z) Z (F7 (C1 TySz.out Z Z Z Z Z Z) (A6 (A9 Z Z) Z (B0 ?_))));refine k1 (I9 (N4 (W5 (N4 (N4 (W5 (N4 ?_)))))));exact C2 (rs:=[dA nM,H6 false]) (kP rfl rfl rfl rfl rfl rfl rfl) (by rw[y];rfl)
  have he:e=w.length:=by
   apply Classical.byContradiction;intro h;revert d;simp;omega
  rw[A4 he]at y;refine k5 (k1 ?_);refine A7 (A6 (A8 Z Z) Z (A6 (A8 Z Z) Z (A6 (fM Z Z Z (by omega) (by omega)) Z (A6 (uS Z Z af) Z (A6 (A8 Z Z) Z (A6 (B5 Z) Z (F7 (C1 TySz.out Z Z Z Z Z (M)) (B0 ?_))))))));refine k4 (k1 ?_);refine A7 (A6 (D5 Z Z (by omega)) Z (A6 (A8 Z Z) Z (B0 ?_)));refine k1 ?_;exact⟨(j+1,cj.put o n),⟨E,y⟩,by dsimp only;omega,(by dsimp only;rw[<-BH (n:Int) P];exact (Sees.of ⟨B4 rfl,B4 rfl,B4 rfl,B4 rfl,B4 rfl,B4 rfl,trivial⟩ ⟨rfl,rfl,rfl,trivial⟩))⟩
theorem IN(l:Str)(q:List Str)(D:q≠[])(K:∀w∈q,w.length<=1048576)(I:q.length<=1048576)(G:FnOk Tryz.prog 13 [I3 l] (fun rs=>rs=[aY q,H6 true])) :
  FnOk Tryz.prog 101 [I3 l] (fun rs=>rs=[dA (nO q).1,E8 (nO q).2]):=by
 obtain⟨w,r,rfl⟩:=List.exists_cons_of_ne_nil D;obtain⟨R,F⟩:∃R,R=nO (w::r):=⟨_,rfl⟩
 have v:R=match eF w r formsL with
  | some c=>(c,0)
  | none=>(nM,320):=F
 rw[<-F];refine FnOk.intro Tryz.func101 (by decide) Z Z Z Z ?_;refine k2 ?_;refine A7 (D6 (I1 2 Z) Z (A6 (A9 Z Z) Z (B0 ?_)));refine k1 (k2 ?_);refine A7 (A6 (A8 Z Z) Z (D1 (G) Z Z Z ?_));rintro _ rfl;refine A6 (A8 Z Z) Z (A6 (B7 Z Z) Z (A6 (B7 Z Z) Z (A6 (A9 Z Z) Z (A6 (A9 Z Z) Z (B0 ?_)))));refine k1 (k2 (k2 ?_));refine A7 (A6 (A8 Z Z) Z (A6 (N2 Z) Z (A6 (A8 Z Z) Z (B6 Z Z Z Z (fun z=>by rw[z];exact A8 Z Z) ?_))));refine B6 Z Z Z Z (fun z=>by rw[z];exact F0 Z (.pure _ _ _ _)) ?_;refine B6 Z Z Z Z (fun z=>by rw[z];exact K4 Z Z) ?_;refine A6 (C6 Z (fun h=>by first | rfl | (rw[h];rfl)) (fun h=>by first | rfl | (rw[h];rfl))) Z ?_;refine B0 ?_;refine k1 ?_;refine B9 rfl (fun d=>?_) (fun d=>?_)
 ·exfalso;revert d;simp
  try omega
 refine k5 (k1 (k2 (k2 ?_)));refine A7 (D1 (uZ) Z Z Z ?_);rintro _ rfl;refine A6 (F0 Z (.pure _ _ _ _)) Z (A6 (A8 Z Z) Z (B0 ?_));refine k1 (k3 ?_);refine E4 (X:=Nat) (fun i=>([(2,.s (.one (.ref 2 0))),(4,E3 Str 1 R8 (w::r)),(23,E3 CForm 6 sO formsL),(24,C7 10),(25,C7 i)],[(2,.box (lW nM))])) (fun i=>i<=10/\eF w r formsL=eF w r (formsL.drop i)) (fun i=>10-i) 0 ⟨Nat.zero_le _,rfl⟩ (Sees.of ⟨B4 rfl,B4 rfl,B4 rfl,B4 rfl,B4 rfl,trivial⟩ ⟨rfl,trivial⟩) ?_;rintro i ⟨H,j⟩;dsimp only at H j ⊢;refine k2 ?_;refine A7 (A6 (F3 Z Z) Z (B0 ?_));refine k1 (k2 ?_);refine B9 rfl (fun d=>?_) (fun d=>?_);rotate_left
 ·have C:i=10:=by have:=A1 d;omega
  subst C;have m:R=(nM,320):=by rw[v,j];rfl
  refine k6 (k2 ?_);refine A7 (A6 (H1 Z) Z (F7 (C1 TySz.out Z Z Z Z Z Z) (A6 (A9 Z Z) Z (B0 ?_))));refine k1 (I9 ?_);exact C2 (rs:=[dA nM,E8 320]) (kP rfl rfl rfl rfl rfl rfl rfl) (by rw[m])
 have k:i<formsL.length:=by have h:=A0 d;show i<10;omega
 obtain⟨f,y⟩:∃f,f=formsL[i]:=⟨_,rfl⟩
 have J:formsL[i]?=some f:=by rw[y];exact WT k
 rw[XA k,<-y,eF]at j;refine k5 (k1 (k2 (k3 (k2 ?_))));refine A7 (A6 (B8 Z (.pure _ _ _ _) Z (by omega) J) Z (A6 (G7 Z Z) Z (D6 (I1 7 Z) Z (F7 (C1 TySz.out Z Z Z Z Z Z) (B0 ?_)))));refine k1 (k2 (k2 ?_));refine D7 (by kernel_rfl) (by kernel_rfl) (B3 (B1 Z) Z Z (B3 (B2 Z Z Z) Z Z (B3 (A8 Z Z) Z Z (B3 (B8 Z (.pure _ _ _ _) Z (by omega) (show (w::r)[(0:Int).toNat]?=some w from Z)) Z Z (B3 (C0 Z Z) Z Z (B3 (pN Z Z) Z Z (M5 ?_)))))));refine k1 ?_;refine B9 rfl (fun d=>?_) (fun d=>?_)
 ·have E:f.word≠w:=A0 d;rw[A4 E]at j;refine k6 (k7 (k8 Z (k1 ?_)));refine A7 (A6 (D5 Z Z (by omega)) Z (A6 (A8 Z Z) Z (B0 ?_)));refine k1 ?_;exact⟨i+1,⟨k,j⟩,by have:formsL.length=10:=rfl;omega,Sees.of ⟨B4 rfl,B4 rfl,B4 rfl,B4 rfl,B4 rfl,trivial⟩ ⟨rfl,trivial⟩⟩
 have B:¬f.word≠w:=A1 d;rw[A5 B]at j;have g:=MN f r (fun x L=>K x (by simp[L])) (by simp only[WW]at I;omega);cases A:aN f r with
 | some c =>
  rw[A]at g j;have m:R=(c,0):=by rw[v,j]
  refine k5 (k1 (k2 ?_));refine dH [8,7] [[],[7],[8,7]] [(0,[7]),(1,[7]),(2,[7]),(3,[7]),(4,[7]),(5,[7]),(6,[7]),(6,[8,7])] (by kernel_rfl) (by kernel_rfl) (V6 Z (F1 Z Z Z) (V6 Z (A8 Z Z) (V6 Z (aA Z (.pure _ _ _ _) Z (by ((try simp only[WW]);omega)) (by ((try simp only[WW]);omega))) ?_)));refine V6 Z (I4 (g) Z Z) (V6 Z (A8 Z Z) (V6 Z (B7 Z Z) (V6 Z (B7 Z Z) (FY 8 Z Z (pO (bB TySz.out Z Z Z Z Z Z) (V6 Z (A9 Z Z) ?_))))));refine LP rfl ?_ ?_
  ·refine j4 Z Z (F1 Z Z Z) (j4 Z Z (A8 Z Z) (j4 Z Z (aA Z (.pure _ _ _ _) Z (by ((try simp only[WW]);omega)) (by ((try simp only[WW]);omega))) ?_));refine j4 Z Z (I4 (g) Z Z) (j4 Z Z (A8 Z Z) (j4 Z Z (B7 Z Z) (j4 Z Z (B7 Z Z) (j4 Z Z (B7 Z Z) ?_))));exact LQ
  refine k1 (k2 ?_);refine A7 (A6 (A8 Z Z) Z (B0 ?_));refine k1 ?_;refine B9 rfl (fun d=>?_) (fun d=>?_);rotate_left
  ·cases d
  refine k2 ?_;refine A7 (A6 (F1 Z Z Z) Z (F7 (C1 TySz.out Z Z Z Z Z Z) (A6 (A9 Z Z) Z (B0 ?_))));refine k1 (I9 (W5 (N4 (N4 (W5 (N4 ?_))))));exact C2 (rs:=[dA c,E8 0]) (kP rfl rfl rfl rfl rfl rfl rfl) (by rw[m])
 | none =>
  rw[A]at g j;refine k5 (k1 (k2 ?_));refine dH [8,7] [[],[7],[8,7]] [(0,[7]),(1,[7]),(2,[7]),(3,[7]),(4,[7]),(5,[7]),(6,[7]),(6,[8,7])] (by kernel_rfl) (by kernel_rfl) (V6 Z (F1 Z Z Z) (V6 Z (A8 Z Z) (V6 Z (aA Z (.pure _ _ _ _) Z (by ((try simp only[WW]);omega)) (by ((try simp only[WW]);omega))) ?_)));refine V6 Z (I4 (g) Z Z) (V6 Z (A8 Z Z) (V6 Z (B7 Z Z) (V6 Z (B7 Z Z) (FY 8 Z Z (pO (bB TySz.out Z Z Z Z Z Z) (V6 Z (A9 Z Z) ?_))))));refine LP rfl ?_ ?_
  ·refine j4 Z Z (F1 Z Z Z) (j4 Z Z (A8 Z Z) (j4 Z Z (aA Z (.pure _ _ _ _) Z (by ((try simp only[WW]);omega)) (by ((try simp only[WW]);omega))) ?_));refine j4 Z Z (I4 (g) Z Z) (j4 Z Z (A8 Z Z) (j4 Z Z (B7 Z Z) (j4 Z Z (B7 Z Z) (j4 Z Z (B7 Z Z) ?_))));exact LQ
  refine k1 (k2 ?_);refine A7 (A6 (A8 Z Z) Z (B0 ?_));refine k1 ?_;refine B9 rfl (fun d=>?_) (fun d=>?_)
  ·cases d
  refine k5 (k4 (k1 ?_));refine A7 (A6 (D5 Z Z (by omega)) Z (A6 (A8 Z Z) Z (B0 ?_)));refine k1 ?_;exact⟨i+1,⟨k,j⟩,by have:formsL.length=10:=rfl;omega,Sees.of ⟨B4 rfl,B4 rfl,B4 rfl,B4 rfl,B4 rfl,trivial⟩ ⟨rfl,trivial⟩⟩
theorem DU(a:List Str)(c:a≠[])(d:∀w∈a,w≠[]/\w.all R9=true/\w.length<=1048576)(f:(T5 a).length<=1048576) :
  FnOk Tryz.prog 101 [I3 (T5 a)] (fun i=>i=[dA (nO a).1,E8 (nO a).2]) :=
 IN (T5 a) a c (fun w b=>(d w b).2.2) (Nat.le_trans (sR a fun w b=>(d w b).1) f) (DT a c (fun w b=>⟨(d w b).1,(d w b).2.1⟩) f)
theorem IP(s:Str)(J:s.length<=536870912):FnOk Tryz.prog 52 [I3 s] (fun rs=>rs=[aY (sW s).1,E8 (sW s).2]):=by
 obtain⟨R,F⟩:∃R,R=sW s:=⟨_,rfl⟩
 have b:=F;unfold sW at b;rw[<-F];refine FnOk.intro Tryz.func52 (by decide) Z Z Z Z ?_;refine k2 ?_;refine A7 (A6 (J1 _ 1 R8) Z (A6 (A9 Z Z) Z (B0 ?_)));refine k1 (k2 (k2 ?_));refine A7 (A6 (A8 Z Z) Z (A6 (P6 Z) Z (A6 (P5 Z Z) Z (B0 ?_))));refine k1 ?_;refine B9 rfl (fun d=>?_) (fun d=>?_)
 ·have q:65536<s.length:=by have:=A0 d;omega
  rw[A4 q]at b;refine k2 ?_;refine A7 (A6 (J1 _ 1 R8) Z (A6 (A9 Z Z) Z (B0 ?_)));refine k1 (I9 (N4 ?_));exact C2 (rs:=[aY [],E8 1]) (U1 rfl rfl rfl rfl rfl) (by rw[b])
 have q:¬65536<s.length:=by have:=A1 d;omega
 rw[A5 q]at b;obtain⟨P,E⟩:∃P,P=Q6 s:=⟨_,rfl⟩
 have B:∀t∈P.1,t.length<=1048576:=by
  intro t p;rw[E]at p;unfold Q6 at p;split at p
  ·cases p
  ·have x:=(EX s).1;have M:t.length<=(D4 s).flatten.length:=(List.sublist_flatten_of_mem p).length_le;omega
 have G:=rF s J;rw[<-E]at G b;refine k5 (k1 (k2 ?_));refine A7 (A6 (A8 Z Z) Z (qY (G) Z Z Z Z ?_));rintro _ _ ⟨rfl,rfl⟩;refine⟨rfl,?_⟩;refine A6 (A8 Z Z) Z (A6 (B7 Z Z) Z (A6 (B7 Z Z) Z (A6 (A9 Z Z) Z (A6 (A9 Z Z) Z (B0 ?_)))));refine k1 (k2 (k2 ?_));refine A7 (A6 (A8 Z Z) Z (A6 (N5 Z Z) Z (A6 (A8 Z Z) Z (B6 Z Z Z Z (fun z=>by rw[z];exact A8 Z Z) ?_))));refine B6 Z Z Z Z (fun z=>by rw[z];exact y7 Z Z) ?_;refine B6 Z Z Z Z (fun z=>by rw[z];exact P5 Z Z) ?_;refine A6 (C6 Z (fun h=>by first | rfl | (rw[h];rfl)) (fun h=>by first | rfl | (rw[h];rfl))) Z ?_;refine B0 ?_;refine k1 ?_;refine B9 rfl (fun d=>?_) (fun d=>?_)
 ·have x:P.2≠0\/100<P.1.length:=by
   rw[or_pick]at d;have:=A0 d;omega
  rw[A4 x]at b;refine k2 ?_;refine A7 (A6 (J1 _ 1 R8) Z (A6 (A9 Z Z) Z (B0 ?_)));refine k1 (I9 (N4 ?_));exact C2 (rs:=[aY [],E8 1]) (U1 rfl rfl rfl rfl rfl) (by rw[b])
 have x:¬(P.2≠0\/100<P.1.length):=by
  rw[or_pick]at d;have:=A1 d;omega
 rw[A5 x]at b;have H:P.1.length<=100:=by omega
 refine k5 (k1 (k2 (k2 ?_)));refine A7 (A6 (A8 Z Z) Z (A6 (y7 Z Z) Z (A6 (A8 Z Z) Z (B0 ?_))));refine k1 (k3 ?_);refine E4 (X:=Nat) (fun i=>([(4,.s (.one (.mut 9))),(23,.s (.one (.mut 9))),(24,C7 P.1.length),(25,C7 i)],[(9,gM (bS P.1 i))])) (fun i=>i<=P.1.length) (fun i=>P.1.length-i) 0 (Nat.zero_le _) (by dsimp only;rw[FF];exact (Sees.of ⟨B4 rfl,B4 rfl,B4 rfl,B4 rfl,trivial⟩ ⟨rfl,trivial⟩)) ?_;intro i I;dsimp only at I ⊢;have y:=KD P.1 i;refine k2 ?_;refine A7 (A6 (F3 Z Z) Z (B0 ?_));refine k1 (k2 ?_);refine B9 rfl (fun d=>?_) (fun d=>?_)
 ·have v:i<P.1.length:=by have q:=A0 d;(try dsimp only at q);omega
  obtain⟨t,w⟩:∃t,t=P.1[i]:=⟨_,rfl⟩
  have L:(bS P.1 i)[i]?=some t:=by rw[w];exact KE v
  have A:(bS P.1 i)[((i:Nat):Int).toNat]?=some t:=by rw[WV];exact L
  have r:=KF v;rw[<-w]at r;have K:t.length<=1048576:=B t (by rw[w];exact WY v);have C:FnOk Tryz.prog 99 [I3 t,I3 [10]] (fun rs=>rs=[I3 (gB t)]):=tR t [10] (by omega);refine k5 (k1 (k2 (k3 (k2 ?_))));refine A7 (A6 (A8 Z Z) Z (A6 (K9 Z Z Z (by omega) (by (rw[y];omega))) Z ?_));refine A6 (u0 Z Z A Z) Z (A6 (A9 Z Z) Z (A6 (A9 Z Z) Z (B0 ?_)));refine k1 ?_;refine A7 (A6 (A8 Z Z) Z (A6 (A8 Z Z) Z (A6 (A8 Z Z) Z (D1 (C) Z Z Z ?_))));rintro _ rfl;refine A6 (K9 Z Z Z (by omega) (by (rw[y];omega))) Z ?_;refine F7 (cT ((gB t)) TySz.out Z Z A Z Z Z Z (fun _ _ _ h=>m6 h) (by intro j q x;rcases j with _ | _ | _ | _ | _ | _ | _ | j<;>first | rfl | omega)) ?_;refine B0 ?_;refine k4 (k1 ?_);refine A7 (A6 (D5 Z Z (by omega)) Z (A6 (A8 Z Z) Z (B0 ?_)));refine k1 ?_;exact⟨i+1,by omega,by omega,(by rw[<-r];exact (Sees.of ⟨B4 rfl,B4 rfl,B4 rfl,B4 rfl,trivial⟩ ⟨rfl,trivial⟩))⟩
 have D:i=P.1.length:=by have q:=A1 d;(try dsimp only at q);omega
 rw[D,KG];refine k6 (k2 ?_);refine A7 (A6 (A8 Z Z) Z (A6 (A9 Z Z) Z (A6 (A9 Z Z) Z (B0 ?_))));refine k1 (G8 (Sees.freezeG (k:=9) (α:=Str) (ec:=1) (c:=R8) (xs:=P.1.map gB) (e:=9) rfl rfl) ?_);refine I9 ?_;exact C2 (rs:=[aY (P.1.map gB),E8 0]) (U1 rfl rfl rfl rfl rfl) (by rw[b])
theorem jN(ns:List Int)(h:ns.length<=8):FnOk Tryz.prog 77 [O6 ns] (fun rs=>rs=[I3 (n9 ns++[10])]):=by
 have g:aO ns 0=[99,111,109,109,105,116]:=by simp[aO,lX]
 refine FnOk.intro Tryz.func77 (by decide) Z Z Z Z ?_;refine k2 ?_;refine A7 (A6 (A9 Z Z) Z (B0 ?_));refine k1 (k2 ?_);refine A7 (A6 (A9 Z Z) Z (B0 ?_));refine k1 (k2 (k2 ?_));refine A7 (A6 (A8 Z Z) Z (A6 (F0 Z (.pure _ _ _ _)) Z (A6 (A8 Z Z) Z (B0 ?_))));refine k1 (k3 ?_);refine E4 (X:=Nat) (fun i=>([(3,P2 (aO ns i)),(6,E3 Int 1 G1 ns),(7,C7 ns.length),(8,C7 i)],[])) (fun i=>i<=ns.length) (fun i=>ns.length-i) 0 (Nat.zero_le _) (by dsimp only;rw[g];exact (Sees.of ⟨B4 rfl,B4 rfl,B4 rfl,B4 rfl,trivial⟩ trivial)) ?_;intro i k;dsimp only at k ⊢;have l:=aB ns i;refine k2 ?_;refine A7 (A6 (F3 Z Z) Z (B0 ?_));refine k1 (k2 ?_);refine B9 rfl (fun d=>?_) (fun d=>?_)
 ·have c:i<ns.length:=by have a:=A0 d;(try dsimp only at a);omega
  obtain⟨n,m⟩:∃n,n=ns[i]:=⟨_,rfl⟩
  have f:ns[i]?=some n:=by rw[m];exact WT c
  have j:=r5 n;have o:=sS f;refine k5 (k1 (k2 (k3 (k2 ?_))));refine A7 (A6 (B8 Z (.pure _ _ _ _) Z (by omega) f) Z (A6 (C0 Z Z) Z (A6 (A9 Z Z) Z (B0 ?_))));refine k1 ?_;refine A7 (A6 (A8 Z Z) Z (A6 (A8 Z Z) Z (D1 (p7 n) Z Z Z ?_)));rintro _ rfl;refine A6 (K8 Z Z (by (simp;omega))) Z (A6 (K8 Z Z (by (simp;omega))) Z (A6 (A9 Z Z) Z (B0 ?_)));rw[<-o];refine k4 (k1 ?_);refine A7 (A6 (D5 Z Z (by omega)) Z (A6 (A8 Z Z) Z (B0 ?_)));refine k1 ?_;exact⟨i+1,by omega,by omega,Sees.of ⟨B4 rfl,B4 rfl,B4 rfl,B4 rfl,trivial⟩ trivial⟩
 have b:i=ns.length:=by have a:=A1 d;(try dsimp only at a);omega
 rw[b]at l ⊢;refine k6 (k2 ?_);refine A7 (A6 (A8 Z Z) Z (A6 (K8 Z Z (by (simp;omega))) Z (A6 (A9 Z Z) Z (B0 ?_))));refine k1 (I9 ?_);exact C2 (rs:=[I3 (aO ns ns.length++[10])]) (J5 rfl rfl rfl) rfl
theorem fO(l:List Int)(e:Int)(h:l.length<=1000):FnOk Tryz.prog 33 [O6 l,E8 e] (fun rs=>rs=[I3 (x8 (l.map fun c=>[c])),E8 e]):=by
 obtain⟨L,a⟩:∃L:List (List Int),L=l.map fun c=>[c]:=⟨_,rfl⟩
 have v:L.length=l.length:=by rw[a,XW]
 have x:∀ns∈L,ns.length<=1:=fun ns b=>by
  rw[a]at b;obtain⟨c,_,rfl⟩:=XU.1 b;exact Nat.le_refl _
 rw[<-a];refine FnOk.intro Tryz.func33 (by decide) Z Z Z Z ?_;refine k2 ?_;refine A7 (A6 (A9 Z Z) Z (A6 (A9 Z Z) Z (B0 ?_)));refine k1 (k2 ?_);refine A7 (A6 (A9 Z Z) Z (B0 ?_));refine k1 (k2 (k2 ?_));refine A7 (A6 (A8 Z Z) Z (A6 (F0 Z (.pure _ _ _ _)) Z (A6 (A8 Z Z) Z (B0 ?_))));refine k1 (k3 ?_);refine E4 (X:=Nat) (fun i=>([(1,C7 e),(6,P2 (V9 L i)),(9,E3 Int 1 G1 l),(10,C7 l.length),(11,C7 i)],[])) (fun i=>i<=l.length) (fun i=>l.length-i) 0 (Nat.zero_le _) (by dsimp only;rw[gU];exact (Sees.of ⟨B4 rfl,B4 rfl,B4 rfl,B4 rfl,B4 rfl,trivial⟩ trivial)) ?_;intro i w;dsimp only at w ⊢;have z:=dC x i;refine k2 ?_;refine A7 (A6 (F3 Z Z) Z (B0 ?_));refine k1 (k2 ?_);refine B9 rfl (fun m=>?_) (fun m=>?_)
 ·have k:i<l.length:=by have d:=A0 m;(try dsimp only at d);omega
  obtain⟨n,b⟩:∃n,n=l[i]:=⟨_,rfl⟩
  have s:l[i]?=some n:=by rw[b];exact WT k
  have o:L[i]?=some [n]:=by rw[a,YE,s];rfl
  have y:=aP o;have f:=aB [n] 1;have q:(n9 [n]).length<=17:=f;refine k5 (k1 (k2 (k3 (k2 ?_))));refine A7 (A6 (B8 Z (.pure _ _ _ _) Z (by omega) s) Z (A6 (C0 Z Z) Z (A6 (A9 Z Z) Z (B0 ?_))));refine k1 ?_;refine A7 (A6 (A8 Z Z) Z (A6 (A8 Z Z) Z (A6 (D9 (c:=G1) (ys:=[n]) (D8 Z Z Z Z H5) Z Z Z) Z (D1 (jN [n] (by simp)) Z Z Z ?_))));rintro _ rfl;refine A6 (K8 Z Z (by (simp;omega))) Z (A6 (A9 Z Z) Z (B0 ?_));rw[<-y];refine k4 (k1 ?_);refine A7 (A6 (D5 Z Z (by omega)) Z (A6 (A8 Z Z) Z (B0 ?_)));refine k1 ?_;exact⟨i+1,by omega,by omega,Sees.of ⟨B4 rfl,B4 rfl,B4 rfl,B4 rfl,B4 rfl,trivial⟩ trivial⟩
 have j:i=L.length:=by have d:=A1 m;(try dsimp only at d);omega
 rw[j];refine k6 (k2 ?_);refine A7 (A6 (A8 Z Z) Z (A6 (A8 Z Z) Z (A6 (A9 Z Z) Z (A6 (A9 Z Z) Z (B0 ?_)))));refine k1 (I9 ?_);exact C2 (rs:=[I3 (V9 L L.length),E8 e]) (U1 rfl rfl rfl rfl rfl) rfl
end Go.Proofs.YtbflhoahmmfkmaaGreatDoor
