/- Walks of the program's functions. -/
import Derived.Test.YtbflhoahmmfkmaaGreatDoorFb
set_option linter.all false
namespace Go.Proofs.YtbflhoahmmfkmaaGreatDoor
open Go Go.AL
set_option maxRecDepth 100000
set_option maxHeartbeats 1000000
theorem five{p:Nat->Prop}(a:p 0)(b:p 1)(c:p 2)(d:p 3)(e:p 4):∀i,i<5->p i
 | 0,_=>a
 | 1,_=>b
 | 2,_=>c
 | 3,_=>d
 | 4,_=>e
theorem Y5{K:List Nat}{T rest:Obs}{k:Nat}{o:Ob}(a:C2 rest k=none)(h:∀j x,N2 K j=false->C2 rest j=some x->C2 T j=some x):∀j x,N2 K j=false->C2 rest j=some x->C2 ((k,o)::T) j=some x:=by
 intro j x c b;have:k≠j:=fun e=>by rw[e,b]at a;cases a
 rw[C4 this];exact h j x c b
def J3(ks:List Nat)(ob:Obs):Obs:=ks.foldl (fun f k=>Obs.forget k f) ob
theorem j2{k:Nat}:∀{ks:List Nat} {ob:Obs},C2 ob k=none->C2 (J3 ks ob) k=none
 | [],_,h=>h
 | q::ks,ob,h=>j2 (ks:=ks) (ob:=Obs.forget q ob) (by rw[K8,h];rfl)
theorem dO(k:Nat):∀(a:List Nat) (ob:Obs),J3 a (Obs.forget k ob)=Obs.forget k (J3 a ob)
 | [],_=>rfl
 | q::a,ob=>by
  show J3 a (Obs.forget q (Obs.forget k ob))=Obs.forget k (J3 a (Obs.forget q ob));rw[gJ q k,dO k a]
theorem bM{k:Nat}:∀{a:List Nat} {ob:Obs},N2 a k=true->Obs.forget k (J3 a ob)=J3 a ob
 | [],ob,h=>by cases h
 | q::a,ob,h=>by
  show Obs.forget k (J3 a (Obs.forget q ob))=J3 a (Obs.forget q ob);by_cases b:k=q
  ·subst b;rw[dO,Obs.forget_idem]
  ·have c:N2 a k=true:=by
    rw[oZ]at h ⊢;rcases HZ.1 h with h | h
    ·exact absurd h b
    ·exact h
   exact bM c
theorem fB{K b:List Nat}{T ob:Obs}(k:Nat)(e:N2 b k=true)(h:∀j x,N2 K j=false->C2 (J3 b ob) j=some x->C2 T j=some x) :
  ∀j x,N2 K j=false->C2 (J3 b ob) j=some x->C2 (Obs.forget k T) j=some x:=by
 intro j x d a;rw[<-bM e,K8]at a;rw[K8];cases c:C2 (J3 b ob) j with
 | none=>rw[c]at a;cases a
 | some y=>rw[c]at a;rw[h j y d c];exact a
theorem lT:FnOk Tryz.prog 74 [] (fun rs=>rs=[yZ formsL]):=by
 refine FnOk.intro Tryz.func74 (by decide) Z Z Z Z ?_;refine k2 ?_;refine A7 (A6 (L7 _ 6 jO) Z (B0 ?_));refine k1 (k2 ?_);refine A7 (A6 (J2 Z) Z (A6 (J2 Z) Z (A6 (J2 Z) Z (A6 (J2 Z) Z (A6 (J2 Z) Z (A6 (J2 Z) Z (A6 (J2 Z) Z (A6 (J2 Z) Z (A6 (J2 Z) Z (A6 (J2 Z) Z (A6 (G2 (c:=jO) (ys:=formsL) (F6 Z Z Z Z (F6 Z Z Z Z (F6 Z Z Z Z (F6 Z Z Z Z (F6 Z Z Z Z (F6 Z Z Z Z (F6 Z Z Z Z (F6 Z Z Z Z (F6 Z Z Z Z (F6 Z Z Z Z M3)))))))))) Z Z Z) Z (A6 (A9 Z Z) Z (B0 ?_)))))))))))));refine k1 (I2 ?_);exact B4 (rs:=[yZ formsL]) (G8 rfl rfl rfl) rfl
abbrev yG(l:List Nat):List TC:=l.map fun o=>.ref 6 o
abbrev vP(l:List Nat):Ob:=.growT 141 l.length 1 (yG l)
theorem dP{gf:Fr}{ob:Obs}(f:CForm)(z:C2 ob 751=none)(A:C2 ob 752=none) :
  AL.Met Tryz.prog 75 [(yY f).s1,.one (.ref 6 0)] gf ob [751,752] (fun rs ob'=>rs=[.one (.mut 751)]/\ob'=(751,vP (O9 f))::J3 [751,752] ob):=by
 obtain⟨q,d⟩:∃l:List Nat,l=if f.b=true then [1,2] else [1]:=⟨_,rfl⟩
 have w:O9 f=if f.c=true then q++[3] else q:=by rw[d];unfold O9;cases f.b<;>cases f.c<;>rfl
 have B:q.length<=2:=by rw[d];split<;>decide
 have x:C2 (J3 [751,752] ob) 751=none:=j2 z;have a:C2 (J3 [751,752] ob) 752=none:=j2 A;refine AL.Met.introH Tryz.func75 (by decide) rfl rfl rfl (fun p=>?_);refine Q7 (Sees.forget 751) ?_;refine Q7 (Sees.forget 752) ?_;refine Q7 (GZ (gf':=C5 [751,752] gf) (l:=[(0,.s (yY f).s1),(1,.s (.one (.ref 6 0)))]) (ob':=J3 [751,752] ob) ⟨B5 rfl,B5 rfl,trivial⟩ (N5 p) (by repeat (first | exact F4 | refine tail_drop rfl ?_ | refine F5 rfl ?_ | refine o9 _ rfl ?_)) (fun _ _ h=>h)) ?_;refine k2 ?_;refine A7 (A6 (CM Z Z Z) Z (A6 (A9 Z Z) Z (B0 ?_)));refine k1 (k2 ?_);refine A7 (A6 (A8 Z Z) Z (A6 (C3 Z) Z (A6 (B3 Z) Z (E1 (vH 751 Z Z Z Z x Z) Z (A6 (A9 Z Z) Z (B0 ?_))))));refine k1 (k2 (k2 ?_));refine A7 (A6 (D7 Z) Z (A6 (B9 Z Z) Z (B0 ?_)));refine k1 ?_;refine aK ([(1,.s (.one (.ref 6 0))),(2,.s (.one (.eref Unit 6 (fun _ j=>(cellsOf jO f 0 6).getD j (.v undef)) () 0))),(5,.s (.one (.mut 751)))]++C5 [751,752] gf) ([(751,vP q)]++J3 [751,752] ob) ?_ ?_
 ·skip;refine B2 rfl (fun k=>?_) (fun k=>?_)
  ·have hb:f.b=true:=k;rw[A4 hb]at d;subst d;skip;refine A7 (A6 (A8 Z Z) Z (A6 (A8 Z Z) Z (A6 (C3 Z) Z (A6 (B3 Z) Z (E1 (iS 752 Z Z Z Z (by rw[C4 (by decide),K8,a];rfl) Z) Z ?_)))));refine E1 (o7 Z Z Z Z (by decide) Z) Z (A6 (A9 Z Z) Z (B0 ?_));refine k1 ?_;exact GZ ⟨B5 rfl,B5 rfl,B5 rfl,trivial⟩ (N5 p) (by repeat (first | exact F4 | refine tail_drop rfl ?_ | refine F5 rfl ?_ | refine o9 _ rfl ?_)) (o6 (L:=[(751,_)]) ⟨rfl,trivial⟩ (by repeat (first | exact Z0 | refine l7 rfl ?_ | refine Y5 a ?_ | refine fB _ rfl ?_)))
  ·have hb:f.b=false:=k;rw[A5 (by rw[hb];decide)]at d;subst d;refine k5 (k1 ?_);exact GZ ⟨B5 rfl,B5 rfl,B5 rfl,trivial⟩ (N5 p) (by repeat (first | exact F4 | refine tail_drop rfl ?_ | refine F5 rfl ?_ | refine o9 _ rfl ?_)) (o6 (L:=[(751,_)]) ⟨rfl,trivial⟩ (by repeat (first | exact Z0 | refine l7 rfl ?_ | refine Y5 a ?_ | refine fB _ rfl ?_)))
 refine k2 (k2 ?_);refine A7 (A6 (D7 Z) Z (A6 (B9 Z Z) Z (B0 ?_)));refine k1 ?_;refine aK ([(5,.s (.one (.mut 751)))]++C5 [751,752] gf) ([(751,vP (O9 f))]++J3 [751,752] ob) ?_ ?_
 ·skip;refine B2 rfl (fun k=>?_) (fun k=>?_)
  ·have hb:f.c=true:=k;rw[A4 hb]at w;rw[w];have y:q=[1]\/q=[1,2]:=by
    rw[d];split
    ·exact .inr rfl
    ·exact .inl rfl
   clear d w B;rcases y with rfl | rfl
   ·skip;refine A7 (A6 (A8 Z Z) Z (A6 (A8 Z Z) Z (A6 (C3 Z) Z (A6 (B3 Z) Z (E1 (iS 752 Z Z Z Z a Z) Z (E1 (o7 Z Z Z Z (by decide) Z) Z (A6 (A9 Z Z) Z (B0 ?_))))))));refine k1 ?_;exact GZ ⟨B5 rfl,trivial⟩ (N5 p) (by repeat (first | exact F4 | refine tail_drop rfl ?_ | refine F5 rfl ?_ | refine o9 _ rfl ?_)) (o6 (L:=[(751,_)]) ⟨rfl,trivial⟩ (by repeat (first | exact Z0 | refine l7 rfl ?_ | refine Y5 a ?_ | refine fB _ rfl ?_)))
   ·skip;refine A7 (A6 (A8 Z Z) Z (A6 (A8 Z Z) Z (A6 (C3 Z) Z (A6 (B3 Z) Z (E1 (iS 752 Z Z Z Z a Z) Z (E1 (o7 Z Z Z Z (by decide) Z) Z (A6 (A9 Z Z) Z (B0 ?_))))))));refine k1 ?_;exact GZ ⟨B5 rfl,trivial⟩ (N5 p) (by repeat (first | exact F4 | refine tail_drop rfl ?_ | refine F5 rfl ?_ | refine o9 _ rfl ?_)) (o6 (L:=[(751,_)]) ⟨rfl,trivial⟩ (by repeat (first | exact Z0 | refine l7 rfl ?_ | refine Y5 a ?_ | refine fB _ rfl ?_)))
  ·have hb:f.c=false:=k;rw[A5 (by rw[hb];decide)]at w;rw[w];refine k5 (k1 ?_);exact GZ ⟨B5 rfl,trivial⟩ (N5 p) (by repeat (first | exact F4 | refine tail_drop rfl ?_ | refine F5 rfl ?_ | refine o9 _ rfl ?_)) (o6 (L:=[(751,_)]) ⟨rfl,trivial⟩ (by repeat (first | exact Z0 | refine l7 rfl ?_ | refine Y5 a ?_ | refine fB _ rfl ?_)))
 refine k2 ?_;refine A7 (A6 (A8 Z Z) Z (A6 (A9 Z Z) Z (B0 ?_)));refine k1 (I2 ?_);exact N4 (x1 rfl rfl) (by repeat (first | exact F4 | refine tail_drop rfl ?_ | refine F5 rfl ?_ | refine o9 _ rfl ?_)) (o6 (L:=[(751,_)]) ⟨rfl,trivial⟩ (by repeat (first | exact Z0 | refine l7 rfl ?_ | refine Y5 a ?_ | refine fB _ rfl ?_))) ⟨rfl,rfl⟩
theorem vQ(c:Cmd)(Q:c.Text.length<=1048576):FnOk Tryz.prog 31 [j7 c] (fun rs=>rs=[F9 (jQ c).1,D0 (jQ c).2]):=by
 refine FnOk.intro Tryz.func31 (by decide) Z Z Z Z ?_;refine k2 ?_;refine A7 (E1 (bC 1 Z Z Z) Z (A6 (A9 Z Z) Z (A6 (A9 Z Z) Z (B0 ?_))));refine k1 (k2 (k2 ?_));refine A7 (C9 (lT) Z Z Z ?_);rintro _ rfl;refine A6 (F3 Z (.pure _ _ _ _)) Z (A6 (A8 Z Z) Z (B0 ?_));refine k1 (k3 ?_);refine D3 (X:=Nat) (fun i=>([(1,.s (.one (.ref 1 0))),(10,D9 CForm 6 jO formsL),(11,D5 10),(12,D5 i)],[(1,.box (z7 c))])) (fun i=>i<=10/\jQ c=uY c (formsL.drop i)) (fun i=>10-i) 0 ⟨Nat.zero_le _,rfl⟩ (Sees.of ⟨B5 rfl,B5 rfl,B5 rfl,B5 rfl,trivial⟩ ⟨rfl,trivial⟩) ?_;rintro i ⟨hi,A⟩;dsimp only at hi A ⊢;refine k2 ?_;refine A7 (A6 (E9 Z Z) Z (B0 ?_));refine k1 (k2 ?_);refine B2 rfl (fun d=>?_) (fun d=>?_);rotate_left
 ·have S:i=10:=by have:=A1 d;omega
  subst S;refine k6 (k2 ?_);refine A7 (A6 (A9 Z Z) Z (A6 (A9 Z Z) Z (B0 ?_)));refine k1 (I2 ?_);exact B4 (rs:=[F9 [],D0 2]) (i7 rfl rfl rfl rfl rfl) (by rw[A];rfl)
 have D:i<formsL.length:=by have h:=A0 d;show i<10;omega
 obtain⟨f,H⟩:∃f,f=formsL[i]:=⟨_,rfl⟩
 have hv:formsL[i]?=some f:=by rw[H];exact HQ D
 have hw:=wH (IP hv);rw[IB D,<-H,uY]at A;refine k5 (k1 (k2 (k3 (k2 ?_))));refine A7 (A6 (B7 Z (.pure _ _ _ _) Z (by omega) hv) Z (A6 (K6 Z Z) Z (E1 (P2 5 Z) Z (J8 (E0 TySz.out Z Z Z Z Z Z) (B0 ?_)))));have y:((if decide (f.kind≠c.Kind)=true then true else !(f.dense == c.Dense))=true)↔(f.kind≠c.Kind\/f.dense≠c.Dense):=by cases f.dense<;>cases c.Dense<;>simp
 refine k1 (k2 (k2 ?_));refine A7 (A6 (B3 Z) Z (A6 (B8 Z Z Z) Z (A6 (B3 Z) Z (A6 (B8 Z Z Z) Z (A6 (L8 Z Z) Z (A6 (A8 Z Z) Z (B1 Z Z Z Z (fun g=>by rw[g];exact B3 Z) ?_)))))));refine B1 Z Z Z Z (fun g=>by rw[g];exact B8 Z Z Z) ?_;refine B1 Z Z Z Z (fun g=>by rw[g];exact B3 Z) ?_;refine B1 Z Z Z Z (fun g=>by rw[g];exact B8 Z Z Z) ?_;refine B1 Z Z Z Z (fun g=>by rw[g];exact zV Z Z TyBool.out) ?_;refine A6 (B6 Z (fun h=>by first | rfl | (rw[h];rfl)) (fun h=>by first | rfl | (rw[h];rfl))) Z ?_;refine B0 ?_;refine k1 ?_;refine B2 rfl (fun d=>?_) (fun d=>?_)
 ·have E:f.kind≠c.Kind\/f.dense≠c.Dense:=y.1 d;rw[A4 E]at A;refine k6 (k7 (k8 Z (k1 ?_)));refine A7 (A6 (E2 Z Z (by omega)) Z (A6 (A8 Z Z) Z (B0 ?_)));refine k1 ?_;exact⟨i+1,⟨D,A⟩,by have:formsL.length=10:=rfl;omega,Sees.of ⟨B5 rfl,B5 rfl,B5 rfl,B5 rfl,trivial⟩ ⟨rfl,trivial⟩⟩
 have E:¬(f.kind≠c.Kind\/f.dense≠c.Dense):=fun h=>by rw[y.2 h]at d;cases d
 rw[A5 E]at A;refine oT [(1,.s (.one (.ref 1 0))),(5,.s (.one (.ref 5 0))),(10,D9 CForm 6 jO formsL),(11,D5 10),(12,D5 i)] [(1,.box (z7 c)),(5,.box (yX f))] (Sees.of ⟨B5 rfl,B5 rfl,B5 rfl,B5 rfl,B5 rfl,trivial⟩ ⟨rfl,rfl,trivial⟩) ?_;refine k5 (k1 (k2 ?_));refine A7 (A6 (G7 Z Z Z) Z (E1 (P2 6 Z) Z (J8 (E0 TySz.out Z Z Z Z Z Z) (B0 ?_))));refine k1 (k2 ?_);refine A7 (A6 (B3 Z) Z (A6 (B8 Z Z Z) Z (A6 (A9 Z Z) Z (B0 ?_))));refine k1 (k2 (k2 ?_));refine A7 (A6 (G7 Z Z Z) Z (dF (dP f Z Z) Z Z Z ?_));rintro _ _ ⟨rfl,rfl⟩;refine A6 (pJ Z Z) Z (A6 (A8 Z Z) Z (B0 ?_));refine k1 (k3 ?_);obtain⟨L,O⟩:∃L,L=O9 f:=⟨_,rfl⟩
 have P:=qO f;rw[<-O]at P ⊢;refine D3 (X:=Nat×Cmd×Str) (fun x=>([(5,.s (.one (.ref 5 0))),(6,.s (.one (.ref 6 0))),(7,L6 x.2.2),(32,.s (.one (.mut 751))),(33,D5 L.length),(34,D5 x.1)],[(5,.box (yX f)),(6,.box (z7 x.2.1)),(751,vP L)])) (fun x=>x.1<=L.length/\x.2.2.length<=8+11*x.1/\x.2.1.Text=c.Text/\aQ L c f.word=aQ (L.drop x.1) x.2.1 x.2.2) (fun x=>L.length-x.1) (0,c,f.word) ⟨Nat.zero_le _,by dsimp only;omega,rfl,rfl⟩ (Sees.of ⟨B5 rfl,B5 rfl,B5 rfl,B5 rfl,B5 rfl,B5 rfl,trivial⟩ ⟨rfl,rfl,rfl,trivial⟩) ?_;rintro⟨j,k,s⟩ ⟨hj,hs,v,z⟩;dsimp only at hj hs v z ⊢;refine k2 ?_;refine A7 (A6 (E9 Z Z) Z (B0 ?_));refine k1 (k2 ?_);refine B2 rfl (fun d=>?_) (fun d=>?_)
 ·have C:j<L.length:=by have:=A0 d;omega
  obtain⟨o,Y⟩:∃o,o=L[j]:=⟨_,rfl⟩
  have M:L[j]?=some o:=by rw[Y];exact HQ C
  have F:=uX (f:=f) (o:=o) (by rw[<-O];exact IP M);have B:=zA (c:=k) F;have V:(yG L)[((j:Nat):Int).toNat*1+0]?=some (.ref 6 o):=by rw[HS,Nat.mul_one,Nat.add_zero,JE,M];rfl
  have I:Nat.ble (o+1) 6=true:=by rcases F with rfl | rfl | rfl<;>rfl
  rw[IB C,<-Y,aQ]at z;refine k5 (k1 (k2 (k3 (k2 ?_))));refine A7 (A6 (x6 Z Z Z (by omega) (by omega)) Z (A6 (lM Z Z V) Z (A6 (A9 Z Z) Z (B0 ?_))));refine k1 (k2 (k2 ?_));refine A7 (A6 (A8 Z Z) Z (A6 (C3 Z) Z (A6 (B8 Z Z (B)) Z (A6 (E9 Z Z) Z (A6 (A8 Z Z) Z (B1 Z Z Z Z (fun g=>by rw[g];exact A8 Z Z) ?_))))));refine B1 Z Z Z Z (fun g=>by rw[g];exact C3 Z) ?_;refine B1 Z Z Z Z (fun g=>by rw[g];exact B8 Z Z (B)) ?_;refine B1 Z Z Z Z (fun g=>by rw[g];exact N1 Z Z) ?_;refine A6 (B6 Z (fun h=>by first | rfl | (rw[h];rfl)) (fun h=>by first | rfl | (rw[h];rfl))) Z ?_;refine B0 ?_;refine k1 ?_;refine B2 rfl (fun d=>?_) (fun d=>?_)
  ·have G:k.get o<0\/2147483647<k.get o:=A0 (or_pick.symm.trans d);rw[A4 G]at z;refine k2 ?_;refine A7 (A6 (A9 Z Z) Z (A6 (A9 Z Z) Z (B0 ?_)));refine k1 (I2 (H9 (N8 (H9 (H9 (N8 (H9 (N8 (H9 (H9 (N8 (H9 ?_))))))))))));exact B4 (rs:=[F9 [],D0 2]) (i7 rfl rfl rfl rfl rfl) (by rw[A];unfold oB;rw[<-O,z])
  have U:¬(k.get o<0\/2147483647<k.get o):=A1 (or_pick.symm.trans d);rw[A5 U]at z;have aa:=aN (k.get o);refine k5 (k1 (k2 ?_));refine A7 (A6 (A8 Z Z) Z (A6 (A8 Z Z) Z (A6 (C3 Z) Z (A6 (B8 Z Z (B)) Z (C9 (cG (k.get o)) Z Z Z ?_)))));rintro _ rfl;refine A6 (L9 Z Z (by (simp;omega))) Z (A6 (L9 Z Z (by (simp;omega))) Z (A6 (A9 Z Z) Z (B0 ?_)));refine k1 ?_;refine A7 (A6 (A8 Z Z) Z (A6 (C3 Z) Z (J8 (E0 TySz.out Z Z Z Z Z (I)) (B0 ?_))));refine k4 (k1 ?_);refine A7 (A6 (E2 Z Z (by omega)) Z (A6 (A8 Z Z) Z (B0 ?_)));refine k1 ?_;refine⟨(j+1,k.put o 0,s++([32]++U1 (k.get o))),⟨C,?_,?_,z⟩,by dsimp only;omega,(by dsimp only;rw[<-qP 0 F];exact (Sees.of ⟨B5 rfl,B5 rfl,B5 rfl,B5 rfl,B5 rfl,B5 rfl,trivial⟩ ⟨rfl,rfl,rfl,trivial⟩))⟩
  ·dsimp only;simp only[HW,HU,IM];omega
  ·dsimp only;rw[oA];exact v
 have T:j=L.length:=by have:=A1 d;omega
 rw[T,List.drop_length,aQ]at z;obtain⟨w,l⟩:∃w:Cmd,w=if f.text=true then { k with Text:=[] } else k:=⟨_,rfl⟩
 obtain⟨s2,q⟩:∃s2:Str,s2=if f.text=true then s++([32]++Q1 k.Text) else s:=⟨_,rfl⟩
 have K:jQ c=jP f w s2:=by
  rw[A];unfold oB;rw[<-O,z,l,q];dsimp only;split<;>rfl
 have ab:=qG k.Text;have W:k.Text.length<=1048576:=by rw[v];exact Q
 refine k6 (k2 (k2 ?_));refine A7 (A6 (B3 Z) Z (A6 (B8 Z Z Z) Z (B0 ?_)));refine k1 ?_;refine aK [(5,.s (.one (.ref 5 0))),(6,.s (.one (.ref 6 0))),(7,L6 s2)] [(5,.box (yX f)),(6,.box (z7 w))] ?_ ?_
 ·skip;refine B2 rfl (fun d=>?_) (fun d=>?_)
  ·have hb:f.text=true:=d;rw[A4 hb]at l q;subst l q;refine k2 ?_;refine A7 (A6 (A8 Z Z) Z (A6 (B3 Z) Z (A6 (B8 Z Z Z) Z (C9 (lQ k.Text (by rw[v];omega)) Z Z Z ?_))));rintro _ rfl;refine A6 (L9 Z Z (by (simp;omega))) Z (A6 (L9 Z Z (by (simp;omega))) Z (A6 (A9 Z Z) Z (B0 ?_)));refine k1 ?_;refine A7 (A6 (B3 Z) Z (J8 (E0 TySz.out Z Z Z Z Z Z) (B0 ?_)));refine k1 ?_;exact Sees.of ⟨B5 rfl,B5 rfl,B5 rfl,trivial⟩ ⟨rfl,rfl,trivial⟩
  ·have hb:f.text=false:=d;rw[A5 (by rw[hb];decide)]at l q;subst l q;refine k5 (k1 ?_);exact Sees.of ⟨B5 rfl,B5 rfl,B5 rfl,trivial⟩ ⟨rfl,rfl,trivial⟩
 refine k2 (k2 ?_);refine A7 (A6 (G7 Z Z Z) Z (A6 (B3 Z) Z (A6 (B8 Z Z Z) Z (A6 (B3 Z) Z (A6 (B8 Z Z Z) Z (A6 (J2 Z) Z (A6 (xO (yW w) (yW ⟨f.kind,0,0,0,f.dense,[]⟩) Z Z Z Z (DB w ⟨f.kind,0,0,0,f.dense,[]⟩)) Z (B0 ?_))))))));refine k1 ?_;refine B2 rfl (fun d=>?_) (fun d=>?_)
 ·have J:¬w=⟨f.kind,0,0,0,f.dense,[]⟩:=by simpa using d
  refine k2 ?_;refine A7 (A6 (A9 Z Z) Z (A6 (A9 Z Z) Z (B0 ?_)));refine k1 (I2 (H9 (N8 (H9 (H9 (N8 (H9 ?_)))))));exact B4 (rs:=[F9 [],D0 2]) (i7 rfl rfl rfl rfl rfl) (by rw[K];unfold jP;rw[A5 J])
 ·have R:w=⟨f.kind,0,0,0,f.dense,[]⟩:=by simpa using d
  refine k5 (k1 (k2 ?_));refine A7 (A6 (A8 Z Z) Z (A6 (A9 Z Z) Z (A6 (A9 Z Z) Z (B0 ?_))));refine k1 (I2 (N8 (H9 (H9 (N8 (H9 ?_))))));exact B4 (rs:=[F9 s2,D0 0]) (i7 rfl rfl rfl rfl rfl) (by rw[K];unfold jP;rw[A4 R])
theorem gD{s:Str}{i:Nat}(h:i<s.length):s[i]?=some (s.getD i 0):=by simp[h]
def dQ(s:Str)(i:Nat):Bool:=decide ((i<s.length/\48<=(s.getD i 0).toNat)/\(s.getD i 0).toNat<=57)
theorem sR(s:Str)(i:Nat):dQ s i=match s[i]? with | some c=>cM c | none=>false:=by
 unfold dQ cM;by_cases h:i<s.length
 ·rw[gD h];simp[h]
 ·rw[IK (by omega)];simp[h]
theorem digs_le(s:Str)(i:Nat):(J7 (s.drop i)).length<=s.length-i:=by
 unfold J7;have:=(List.takeWhile_sublist cM (l:=s.drop i)).length_le;rw[JB]at this;exact this
theorem X8{p:UInt8->Bool}:∀(s:Str) (k:Nat),k<=(s.takeWhile p).length->(match s[k]? with | some c=>p c | none=>false)=decide (k<(s.takeWhile p).length)
 | [],k,h=>by simp at h ⊢
 | c::r,0,h=>by by_cases a:p c=true<;>simp[List.takeWhile_cons,a]
 | c::r,k+1,h=>by
  by_cases a:p c=true
  ·rw[List.takeWhile_cons,A4 a,HU]at h ⊢;have:=X8 (p:=p) r k (by omega);rw[List.getElem?_cons_succ,this];simp
  ·rw[List.takeWhile_cons,A5 a]at h;simp at h
theorem bN{p:UInt8->Bool}:∀(s:Str) (k:Nat),k<(s.takeWhile p).length->s[k]?=(s.takeWhile p)[k]?
 | [],k,h=>by simp at h
 | c::r,k,h=>by
  by_cases a:p c=true
  ·rw[List.takeWhile_cons,A4 a]at h ⊢;cases k with
   | zero=>rfl
   | succ k=>rw[List.getElem?_cons_succ,List.getElem?_cons_succ];exact bN (p:=p) r k (by simpa using h)
  ·rw[List.takeWhile_cons,A5 a]at h;simp at h
theorem lU(s:Str)(i k:Nat)(h:k<=(J7 (s.drop i)).length):dQ s (i+k)=decide (k<(J7 (s.drop i)).length):=by
 rw[sR,<-IE];exact X8 (s.drop i) k h
theorem vR{s:Str}{i k:Nat}(h:k<(J7 (s.drop i)).length):s[i+k]?=some ((J7 (s.drop i)).getD k 0)/\48<=((J7 (s.drop i)).getD k 0).toNat/\((J7 (s.drop i)).getD k 0).toNat<=57 /\
  u5 ((J7 (s.drop i)).take (k+1))=10*u5 ((J7 (s.drop i)).take k)+(((J7 (s.drop i)).getD k 0).toNat-48):=by
 have d:s[i+k]?=(J7 (s.drop i))[k]?:=by rw[<-IE];exact bN _ _ h
 have c:=gD h;have b:cM ((J7 (s.drop i)).getD k 0)=true:=by
  have m:(J7 (s.drop i)).getD k 0∈(s.drop i).takeWhile cM:=IP c;exact List.all_eq_true.1 List.all_takeWhile _ m
 unfold cM at b;have b:=A0 b;refine⟨by rw[d,c],b.1,b.2,?_⟩;obtain⟨j,f⟩:=List.getElem?_eq_some_iff.1 c;rw[IY j,wG,f]
theorem yH(n:Nat)(h:48<=n)(b:n<=57):IntKind.i64.wrap (IntKind.u8.wrap ((n:Int)-48))=((n-48:Nat):Int):=by
 have:∀k:Fin 10,IntKind.i64.wrap (IntKind.u8.wrap (((k.1+48:Nat):Int)-48))=((k.1:Nat):Int):=by decide
 have a:=this ⟨n-48,by omega⟩;dsimp only at a;rw[show n-48+48=n by omega]at a;exact a
def pY(s:Str)(i:Nat):List PV:=match eE (s.drop i) with
 | none=>[D0 0,D0 0,G1 false]
 | some (n,k)=>[D0 n,D0 ((i+k:Nat):Int),G1 true]
theorem lV(s:Str)(i:Nat):FnOk Tryz.prog 42 [F9 s,D0 i] (fun rs=>rs=[G1 (dQ s i)]):=by
 refine FnOk.intro Tryz.func42 (by decide) Z Z Z Z ?_;refine k2 ?_;refine A7 (A6 (A9 Z Z) Z (B0 ?_));refine k1 (k2 ?_);refine A7 (A6 (A8 Z Z) Z (A6 (A8 Z Z) Z (A6 (H1 Z) Z (A6 (E9 Z Z) Z (A6 (A8 Z Z) Z (B1 Z Z Z Z (fun a=>by rw[a];exact A8 Z Z) ?_))))));refine B1 Z Z Z Z (fun a=>by rw[a];exact A8 Z Z) ?_;refine B1 Z Z Z Z (fun a=>by have b:=a;(try simp at b);rw[a];exact K3 Z Z (by omega) (gD (by omega))) ?_;refine B1 Z Z Z Z (fun a=>by rw[a];exact fN Z Z) ?_;refine A6 (B6 Z (fun h=>by first | rfl | (rw[h];rfl)) (fun h=>by first | rfl | (rw[h];rfl))) Z ?_;refine A6 (A8 Z Z) Z (B1 Z Z Z Z (fun a=>by rw[a];exact A8 Z Z) ?_);refine B1 Z Z Z Z (fun a=>by rw[a];exact A8 Z Z) ?_;refine B1 Z Z Z Z (fun a=>by have b:=a;(try simp at b);rw[a];exact K3 Z Z (by omega) (gD (by omega))) ?_;refine B1 Z Z Z Z (fun a=>by rw[a];exact tX Z Z) ?_;refine A6 (B6 Z (fun h=>by first | rfl | (rw[h];rfl)) (fun h=>by first | rfl | (rw[h];rfl))) Z ?_;refine A6 (A9 Z Z) Z (B0 ?_);refine k1 (I2 ?_);refine B4 (G8 Z Z Z) ?_;simp only[and_pick];unfold dQ
 congr 4
 congr 1
 simp;omega
theorem sS(s:Str)(i:Nat)(Y:i<=s.length)(hs:s.length<=1073741824):FnOk Tryz.prog 15 [F9 s,D0 i] (fun rs=>rs=pY s i):=by
 obtain⟨f,j⟩:∃f,f=J7 (s.drop i):=⟨_,rfl⟩
 have M:=digs_le s i;have I:=lU s i 0 (Nat.zero_le _);rw[Nat.add_zero]at I;rw[<-j]at M I;refine FnOk.intro Tryz.func15 (by decide) Z Z Z Z ?_;refine k2 ?_;refine A7 (A6 (A9 Z Z) Z (A6 (A9 Z Z) Z (A6 (A9 Z Z) Z (B0 ?_))));refine k1 (k2 (k2 ?_));refine A7 (A6 (A8 Z Z) Z (A6 (E9 Z Z) Z (A6 (A8 Z Z) Z (B1 Z Z Z Z (fun b=>by rw[b];exact A8 Z Z) ?_))));refine B1 Z Z Z Z (fun b=>by rw[b];exact A8 Z Z) ?_;refine B1 Z Z Z Z (fun b=>by have C:=b;(try simp at C);rw[b];exact M2 (lV s i) Z Z) ?_;refine B1 Z Z Z Z (fun b=>by rw[b];exact Z4 Z) ?_;refine A6 (B6 Z (fun h=>by first | rfl | (rw[h];rfl)) (fun h=>by first | rfl | (rw[h];rfl))) Z ?_;refine B0 ?_;rw[I];refine k1 ?_;by_cases P:f.length=0
 ·refine B2 rfl (fun w=>?_) (fun w=>?_);rotate_left
  ·exfalso;revert w;simp[P]
  refine k2 ?_;refine A7 (A6 (A9 Z Z) Z (A6 (A9 Z Z) Z (A6 (A9 Z Z) Z (B0 ?_))));refine k1 (I2 (H9 ?_));refine B4 (rs:=[D0 0,D0 0,G1 false]) (CB Z Z Z Z Z Z Z) ?_;unfold pY eE;rw[<-j,A4 (.inl (List.length_eq_zero_iff.1 P))]
 refine B2 rfl (fun w=>?_) (fun w=>?_)
 ·exfalso;revert w;simp[show 0<f.length by omega]
 refine k5 (k1 (k2 ?_));refine A7 (A6 (A8 Z Z) Z (A6 (A9 Z Z) Z (A6 (A9 Z Z) Z (B0 ?_))));refine k1 (k2 (k3 ?_));refine D3 (X:=Nat) (fun k=>([(0,L6 s),(1,D5 i),(7,D5 ((min (u5 (f.take k)) 2147483648:Nat):Int)),(8,D5 ((i+k:Nat):Int))],[])) (fun k=>k<=f.length) (fun k=>f.length-k) 0 (Nat.zero_le _) (Sees.of ⟨B5 rfl,B5 rfl,B5 rfl,B5 rfl,trivial⟩ trivial) ?_;intro k R;dsimp only at R ⊢;have y:=lU s i k (by rw[<-j];exact R);rw[<-j]at y;refine k2 (k2 ?_);refine A7 (A6 (A8 Z Z) Z (A6 (A8 Z Z) Z (C9 (lV s (i+k)) Z Z Z ?_)));rintro _ rfl;refine B0 ?_;rw[y];refine k1 ?_;refine B2 rfl (fun w=>?_) (fun w=>?_)
 ·have A:k<f.length:=A0 w;obtain⟨g1,F,G,H⟩:=vR (s:=s) (i:=i) (k:=k) (by rw[<-j];exact A);rw[<-j]at g1 F G H;obtain⟨c,U⟩:∃c,c=f.getD k 0:=⟨_,rfl⟩
  rw[<-U]at g1 F G H;obtain⟨v,O⟩:∃v,v=min (u5 (f.take k)) 2147483648:=⟨_,rfl⟩
  have V:v<=2147483648:=by omega
  have B:min (u5 (f.take (k+1))) 2147483648=min (10*v+(c.toNat-48)) 2147483648:=by rw[H];omega
  rw[<-O];have z:=yH c.toNat F G;refine k5 (k1 (k2 (k3 ?_)));refine A7 (A6 (A8 Z Z) Z (A6 (EO Z Z (by omega)) Z (A6 (A8 Z Z) Z (A6 (A8 Z Z) Z (A6 (K3 Z Z (by omega) g1) Z (A6 (tW Z Z) Z (A6 (aJ Z) Z (A6 (E2 Z Z (by (rw[z];omega))) Z ?_))))))));refine A6 (BJ Z Z) Z (A6 (A9 Z Z) Z (B0 ?_));refine k4 (k1 ?_);refine A7 (A6 (A8 Z Z) Z (A6 (E2 Z Z (by omega)) Z (A6 (A9 Z Z) Z (B0 ?_))));refine k1 ?_;refine⟨k+1,A,by omega,?_⟩;rw[B];refine Sees.of ⟨⟨_,rfl,.same _⟩,⟨_,rfl,.same _⟩,⟨_,rfl,.eq ?_⟩,⟨_,rfl,.eq ?_⟩,trivial⟩ trivial
  ·rw[z]
   congr 6
   split<;>omega
  ·congr 6
 ·have L:k=f.length:=by have:¬k<f.length:=A1 w;omega
  subst L;rw[HX];have D:i<s.length:=by omega
  refine k6 (k2 (k2 ?_));refine A7 (A6 (A8 Z Z) Z (A6 (N1 Z Z) Z (A6 (A8 Z Z) Z (B1 Z Z Z Z (fun b=>by rw[b];exact A8 Z Z) ?_))));refine B1 Z Z Z Z (fun b=>by rw[b];exact A8 Z Z) ?_;refine B1 Z Z Z Z (fun b=>by have C:=b;(try simp at C);rw[b];exact K3 Z Z (by omega) (gD D)) ?_;refine B1 Z Z Z Z (fun b=>by rw[b];exact J9 Z Z) ?_;refine B1 Z Z Z Z (fun b=>by rw[b];exact A8 Z Z) ?_;refine S6 Z Z Z (.gd (.val _)) Z (fun b=>by obtain⟨p,u⟩:=W9 b;(try rw[p]);(try rw[u]);exact A8 Z Z) ?_;refine S6 Z Z Z (.gd (.val _)) Z (fun b=>by obtain⟨p,u⟩:=W9 b;(try rw[p]);(try rw[u]);exact A8 Z Z) ?_;refine S6 Z Z Z (.gd (.val _)) Z (fun b=>by have C:=b;(try simp at C);obtain⟨p,u⟩:=W9 b;(try rw[p]);(try rw[u]);exact E2 Z Z (by omega)) ?_;refine S6 Z Z Z (.gd (.val _)) Z (fun b=>by obtain⟨p,u⟩:=W9 b;(try rw[p]);(try rw[u]);exact N1 Z Z) ?_;refine B1 Z Z Z Z (fun b=>by rw[b];exact B6 Z (fun h=>by first | rfl | (rw[h];rfl)) (fun h=>by first | rfl | (rw[h];rfl))) ?_;refine A6 (B6 Z (fun h=>by first | rfl | (rw[h];rfl)) (fun h=>by first | rfl | (rw[h];rfl))) Z ?_;refine B0 ?_;refine k1 ?_;have K:(s.drop i).head?=some (s.getD i 0):=by rw[List.head?_drop,gD D]
  simp only[and_pick,or_pick];have x:(J7 (s.drop i)=[]\/((s.drop i).head?=some 48/\1<(J7 (s.drop i)).length)\/2147483647<u5 (J7 (s.drop i)))↔(2147483647<((min (u5 f) 2147483648:Nat):Int)\/(((s.getD i 0).toNat:Int)=48/\(i:Int)+1<((i+f.length:Nat):Int))):=by
   rw[<-j,K];have S:f≠[]:=fun e=>P (by rw[e];rfl);have T:(some (s.getD i 0)=some 48)↔((s.getD i 0).toNat:Int)=48:=by
    rw[Option.some.injEq,<-UInt8.toNat_inj];have:(48:UInt8).toNat=48:=rfl;omega
   simp only[S,false_or,T];omega
  refine B2 rfl (fun w=>?_) (fun w=>?_)
  ·have E:=A0 w;refine k2 ?_;refine A7 (A6 (A9 Z Z) Z (A6 (A9 Z Z) Z (A6 (A9 Z Z) Z (B0 ?_))));refine k1 (I2 (H9 ?_));refine B4 (rs:=[D0 0,D0 0,G1 false]) (CB Z Z Z Z Z Z Z) ?_;unfold pY eE;rw[A4 (x.2 (by first | exact E | simpa using E))]
  ·have E:=A1 w;have J:¬(J7 (s.drop i)=[]\/((s.drop i).head?=some 48/\1<(J7 (s.drop i)).length)\/2147483647<u5 (J7 (s.drop i))):=fun Q=>E (by first | exact x.1 Q | simpa using x.1 Q);refine k5 (k1 (k2 ?_));refine A7 (A6 (A8 Z Z) Z (A6 (A8 Z Z) Z (A6 (A9 Z Z) Z (A6 (A9 Z Z) Z (A6 (A9 Z Z) Z (B0 ?_))))));refine k1 (I2 ?_);refine B4 (rs:=[D0 ((min (u5 f) 2147483648:Nat):Int),D0 ((i+f.length:Nat):Int),G1 true]) (CB Z Z Z Z Z Z Z) ?_;unfold pY eE;rw[A5 J,<-j];have W:u5 f<=2147483647:=by
    rw[<-j]at J;by_cases O:u5 f<=2147483647
    ·exact O
    ·exact absurd (.inr (.inr (by omega))) J
   rw[show min (u5 f) 2147483648=u5 f by omega]
theorem vS{s:Str}{i n k:Nat}(h:eE (s.drop i)=some (n,k)):pY s i=[D0 n,D0 ((i+k:Nat):Int),G1 true]:=by unfold pY;rw[h]
theorem vT{s:Str}{i:Nat}(h:eE (s.drop i)=none):pY s i=[D0 0,D0 0,G1 false]:=by unfold pY;rw[h]
abbrev pZ(s:Str)(i:Nat):Ob:=.box [.p (.v (.string ⟨s.toArray⟩)),.p (.v (.int .i64 (i:Int)))]
abbrev GX(b:Bool):S1:=.one (.p (.v (.bool b)))
def BQ(c:UInt8):Prop:=48<=c.toNat/\c.toNat<=55
def qA(s:Str)(i q:Nat):Prop:=i+q<s.length/\BQ (s.getD (i+q) 0)
instance (s:Str) (i q:Nat):Decidable (qA s i q):=by unfold qA BQ;exact inferInstance
theorem CP{b:Nat}{x y:Ob}{ob:Obs}:∀k o,C2 ((b,x)::ob) k=some o->C2 ((b,x)::(b,y)::ob) k=some o:=by
 intro k o a;by_cases c:b=k
 ·subst c;rw[E3]at a ⊢;exact a
 ·rw[C4 c]at a ⊢;rw[C4 c];exact a
theorem nK{p:UInt8->Bool}(s:Str)(i:Nat):((s.drop i).takeWhile p).length<=s.length-i:=by
 have:=(List.takeWhile_sublist p (l:=s.drop i)).length_le;rw[JB]at this;exact this
theorem x8{p:UInt8->Bool}:∀(s:Str),s.take (s.takeWhile p).length=s.takeWhile p
 | []=>rfl
 | c::r=>by
  by_cases a:p c=true
  ·rw[List.takeWhile_cons,A4 a,HU,List.take_succ_cons,x8 r]
  ·rw[List.takeWhile_cons,A5 a];rfl
theorem vU{gf:Fr}{ob:Obs}(s:Str)(i:Nat)(w:Str)(J:i<s.length)(O:s.length<=16777216)(m:(s.drop i).takeWhile L0=w)(v:w≠[])(F:C2 ob 705=some (pZ s i)) :
  AL.Met Tryz.prog 40 [.one (.ref 705 0)] gf ob [] (fun rs ob'=>rs=[(F9 w).s1,GX true]/\ob'=(705,pZ s (i+w.length))::ob):=by
 have K:=nK (p:=L0) s i;rw[m]at K;have B:w.all L0=true:=by rw[<-m];exact List.all_takeWhile
 have q:¬(s.getD i 0).toNat=34:=by
  intro H;have D:=X8 (p:=L0) (s.drop i) 0 (Nat.zero_le _);rw[m,IE,Nat.add_zero,gD J]at D;have G:L0 (s.getD i 0)=true:=by
   have A:L0 (s.getD i 0)=decide (0<w.length):=D;rw[A];exact A2 (List.length_pos_iff.2 v)
  have M:=A0 G;omega
 refine AL.Met.introH Tryz.func40 (by decide) rfl rfl rfl (fun y=>?_);refine Q7 (GZ (l:=[(0,.s (.one (.ref 705 0)))]) (ob':=(705,pZ s i)::ob) ⟨B5 rfl,trivial⟩ y (by repeat (first | exact F4 | refine F5 rfl ?_)) (o6 (L:=[(705,_)]) ⟨F,trivial⟩ Z0)) ?_;refine k2 ?_;refine A7 (A6 (A9 Z Z) Z (A6 (A9 Z Z) Z (B0 ?_)));refine k1 (k2 ?_);refine A7 (A6 (A8 Z Z) Z (A6 (C3 Z) Z (A6 (B3 Z) Z (A6 (B8 Z Z Z) Z (A6 (A9 Z Z) Z (B0 ?_))))));refine k1 (k2 ?_);refine A7 (A6 (A9 Z Z) Z (B0 ?_));refine k1 (k2 (k2 ?_));refine A7 (A6 (A8 Z Z) Z (A6 (A8 Z Z) Z (A6 (C3 Z) Z (A6 (B3 Z) Z (A6 (B8 Z Z Z) Z (A6 (H1 Z) Z (A6 (E9 Z Z) Z (A6 (A8 Z Z) Z (B1 Z Z Z Z (fun b=>by rw[b];exact A8 Z Z) ?_)))))))));refine B1 Z Z Z Z (fun b=>by rw[b];exact C3 Z) ?_;refine B1 Z Z Z Z (fun b=>by rw[b];exact B3 Z) ?_;refine B1 Z Z Z Z (fun b=>by rw[b];exact B8 Z Z Z) ?_;refine B1 Z Z Z Z (fun b=>by rw[b];exact A8 Z Z) ?_;refine B1 Z Z Z Z (fun b=>by have q:=b;(try simp at q);rw[b];exact K3 Z Z (by omega) (gD (by omega))) ?_;refine B1 Z Z Z Z (fun b=>by rw[b];exact J9 Z Z) ?_;refine A6 (B6 Z (fun h=>by first | rfl | (rw[h];rfl)) (fun h=>by first | rfl | (rw[h];rfl))) Z ?_;refine B0 ?_;simp only[and_pick,HS];refine k1 ?_;refine B2 rfl (fun u=>?_) (fun u=>?_)
 ·exfalso;have:=A0 u;omega
 refine k2 (k3 ?_);refine D3 (X:=Nat) (fun k=>([(0,.s (.one (.ref 705 0))),(4,D5 i)]++gf,(705,pZ s (i+k))::ob)) (fun k=>k<=w.length) (fun k=>w.length-k) 0 (Nat.zero_le _) ?_ ?_
 ·exact GZ ⟨B5 rfl,B5 rfl,trivial⟩ y (by repeat (first | exact F4 | refine F5 rfl ?_)) (fun _ _ h=>h)
 intro k C;dsimp only at C ⊢;have d:=X8 (p:=L0) (s.drop i) k (by rw[m];exact C);rw[m,IE]at d;obtain⟨c,I⟩:∃c,c=s.getD (i+k) 0:=⟨_,rfl⟩
 have E:i+k<s.length->s[i+k]?=some c:=fun h=>by rw[I];exact gD h
 have j:(if decide (((i+k:Nat):Int)<(s.length:Int))=true then L0 c else false)=decide (k<w.length):=by
  rw[<-d];by_cases g:i+k<s.length
  ·rw[E g,A4 (A2 (by omega))]
  ·rw[IK (by omega),A5 (by simp;omega)]
 refine k2 (k2 ?_);refine M6 (by kernel_rfl) (by kernel_rfl) (D6 (A8 Z Z) Z Z (D6 (C3 Z) Z Z (D6 (B3 Z) Z Z (D6 (B8 Z Z Z) Z Z (D6 (A8 Z Z) Z Z (D6 (C3 Z) Z Z (D6 (B3 Z) Z Z (D6 (B8 Z Z Z) Z Z (D6 (H1 Z) Z Z (D6 (E9 Z Z) Z Z (D6 (A8 Z Z) Z Z (E5 Z Z (fun b=>by rw[b];exact A8 Z Z) Z Z ?_))))))))))));refine E5 Z Z (fun b=>by rw[b];exact C3 Z) Z Z ?_;refine E5 Z Z (fun b=>by rw[b];exact B3 Z) Z Z ?_;refine E5 Z Z (fun b=>by rw[b];exact B8 Z Z Z) Z Z ?_;refine E5 Z Z (fun b=>by rw[b];exact A8 Z Z) Z Z ?_;refine E5 Z Z (fun b=>by rw[b];exact C3 Z) Z Z ?_;refine E5 Z Z (fun b=>by rw[b];exact B3 Z) Z Z ?_;refine E5 Z Z (fun b=>by rw[b];exact B8 Z Z Z) Z Z ?_;refine E5 Z Z (fun b=>by have q:=b;(try simp at q);rw[b];exact K3 Z Z (by omega) (E (by omega))) Z Z ?_;refine E5 Z Z (fun b=>by have q:=b;(try simp at q);rw[b];exact M2 (lP c) Z Z) Z Z ?_;refine D6 (B6 Z (fun h=>by first | rfl | (rw[h];rfl)) (fun h=>by first | rfl | (rw[h];rfl))) Z Z ?_;refine dB ?_;rw[j];refine k1 ?_;refine B2 rfl (fun u=>?_) (fun u=>?_)
 ·have g:=A0 u;refine k5 (k1 (k3 ?_));refine A7 (A6 (A8 Z Z) Z (A6 (C3 Z) Z (A6 (B3 Z) Z (A6 (B8 Z Z Z) Z (A6 (E2 Z Z (by omega)) Z (A6 (C3 Z) Z (A6 (B3 Z) Z (J8 (E0 TySz.out Z Z Z Z Z Z) (B0 ?_)))))))));refine k4 (k1 ?_);exact⟨k+1,g,by omega,GZ ⟨B5 rfl,B5 rfl,trivial⟩ y (by repeat (first | exact F4 | refine F5 rfl ?_)) CP⟩
 have z:k=w.length:=by have:=A1 u;omega
 subst z;refine k6 (k7 (k7 (k8 Z (k1 ?_))));refine M6 (by kernel_rfl) (by kernel_rfl) (D6 (A8 Z Z) Z Z (D6 (C3 Z) Z Z (D6 (B3 Z) Z Z (D6 (B8 Z Z Z) Z Z (D6 (A8 Z Z) Z Z (D6 (A8 Z Z) Z Z (D6 (C3 Z) Z Z (D6 (B3 Z) Z Z (D6 (B8 Z Z Z) Z Z (D6 (cV Z Z Z (by omega) (by omega) (by omega)) Z Z (D6 (A9 Z Z) Z Z (dB ?_))))))))))));have x:(s.drop i).take (i+w.length-i)=w:=by
  rw[Nat.add_sub_cancel_left]
  conv=>rhs;rw[<-m]
  rw[<-m];exact x8 _
 rw[HS,HS,x];refine k1 (k2 ?_);refine M6 (by kernel_rfl) (by kernel_rfl) (D6 (A8 Z Z) Z Z (D6 (A8 Z Z) Z Z (D6 (M2 (lQ w (by omega)) Z Z) Z Z (D6 (A8 Z Z) Z Z (D6 (C3 Z) Z Z (D6 (B3 Z) Z Z (D6 (B8 Z Z Z) Z Z (D6 (A8 Z Z) Z Z (D6 (A8 Z Z) Z Z (D6 (C3 Z) Z Z (D6 (B3 Z) Z Z (D6 (B8 Z Z Z) Z Z (D6 (cV Z Z Z (by omega) (by omega) (by omega)) Z Z (D6 (S8 Z Z) Z Z (D6 (A9 Z Z) Z Z (D6 (A9 Z Z) Z Z (dB ?_)))))))))))))))));rw[HS,HS,x,qR v B];refine k1 (I2 ?_);exact N4 (tY rfl rfl rfl) (by repeat (first | exact F4 | refine F5 rfl ?_ | refine H4 _ ?_)) (fun _ _ h=>h) ⟨(by rw[A2 rfl];rfl),rfl⟩
theorem sT(d:List Str)(B:d≠[])(F:∀w∈d,w≠[]/\w.all L0=true)(P:(I9 d).length<=1048576) :
  FnOk Tryz.prog 13 [F9 (I9 d)] (fun rs=>rs=[cY d,G1 true]):=by
 obtain⟨s,q⟩:∃s,s=I9 d:=⟨_,rfl⟩
 have C:s≠[]:=by
  obtain⟨w,r,rfl⟩:=List.exists_cons_of_ne_nil B;have z:=qQ w r;have L:=List.length_pos_iff.2 (F w (List.mem_cons_self ..)).1;intro e;rw[<-q,e]at z;simp only[IM]at z;omega
 rw[<-q]at P ⊢;refine FnOk.intro Tryz.func13 (by decide) Z Z Z Z ?_;refine k2 ?_;refine A7 (A6 (A9 Z Z) Z (A6 (A9 Z Z) Z (B0 ?_)));refine k1 (k2 (k2 ?_));refine A7 (A6 (A8 Z Z) Z (A6 (S8 Z Z) Z (B0 ?_)));refine k1 ?_;refine B2 rfl (fun j=>?_) (fun j=>?_)
 ·exact absurd (A0 j) C
 refine k5 (k1 (k2 ?_));refine A7 (A6 (A8 Z Z) Z (A6 (J2 Z) Z (E1 (bC 705 Z Z Z) Z (A6 (A9 Z Z) Z (B0 ?_)))));refine k1 (k2 ?_);refine A7 (A6 (A8 Z Z) Z (A6 (sB Z Z) Z (A6 (A9 Z Z) Z (B0 ?_))));refine k1 (k2 ?_);refine A7 (E1 (gN 850 _ n9 Z) Z (B0 ?_));refine k1 (k3 ?_);refine D3 (X:=Nat×Nat) (fun x=>([(0,L6 s),(4,.s (.one (.ref 705 0))),(5,.s (.one (.clo 40 [(705,0)] []))),(6,.s (.one (.buf 850 Str 1 n9 (d.take x.1))))],[(705,pZ s x.2),(850,.spare (d.take x.1).length 1 9)])) (fun x=>x.1<d.length/\s.drop x.2=I9 (d.drop x.1)/\x.2<s.length) (fun x=>d.length-x.1) (0,0) ⟨List.length_pos_iff.2 B,by rw[List.drop_zero,List.drop_zero];exact q,List.length_pos_iff.2 C⟩ (Sees.of ⟨B5 rfl,B5 rfl,B5 rfl,B5 rfl,trivial⟩ ⟨rfl,rfl,trivial⟩) ?_;rintro⟨k,i⟩ ⟨G,v,M⟩;dsimp only at G v M ⊢;obtain⟨w,E⟩:∃w,w=d[k]:=⟨_,rfl⟩
 have N:d[k]?=some w:=by rw[E];exact HQ G
 obtain⟨J,K⟩:=F w (IP N);rw[IB G,<-E]at v;have I:(s.drop i).takeWhile L0=w:=by rw[v];exact wI K _
 have D:d.take (k+1)=d.take k++[w]:=by rw[List.take_add_one,N];rfl
 have hkl:(d.take k).length<=1048576:=by
  have z:=List.length_take_le' k d;have L:=jT d fun w Q=>(F w Q).1;rw[<-q]at L;omega
 have m:=congrArg List.length v;rw[JB]at m;refine k3 (k2 ?_);refine A7 (A6 (A8 Z Z) Z (CI (vU s i w M (by omega) I J Z) Z Z Z Z ?_));rintro _ _ ⟨rfl,rfl⟩;refine A6 (A8 Z Z) Z (A6 (C1 Z Z) Z (A6 (C1 Z Z) Z (A6 (A9 Z Z) Z (A6 (A9 Z Z) Z (B0 ?_)))));refine k1 (k2 (k2 ?_));refine A7 (A6 (A8 Z Z) Z (A6 (Z4 Z) Z (B0 ?_)));refine k1 ?_;refine B2 rfl (fun j=>?_) (fun j=>?_)
 ·cases j
 refine k5 (k1 (k2 ?_));refine A7 (A6 (A8 Z Z) Z (A6 (A8 Z Z) Z (A6 (G2 (c:=n9) (ys:=[w]) (F6 Z Z Z Z M3) Z Z Z) Z (E1 (k9 Z Z Z (.pure _ _ _ _) (by (simp only[HU,IM];omega)) Z) Z (A6 (A9 Z Z) Z (B0 ?_))))));refine k1 (k2 (k2 ?_));refine A7 (A6 (A8 Z Z) Z (A6 (C3 Z) Z (A6 (B3 Z) Z (A6 (B8 Z Z Z) Z (A6 (A8 Z Z) Z (A6 (H1 Z) Z (A6 (J9 Z Z) Z (B0 ?_))))))));refine k1 ?_;rcases y:d.drop (k+1) with _ | ⟨x,r⟩
 ·rw[y]at v m;rw[jR]at m;refine B2 rfl (fun j=>?_) (fun j=>?_);rotate_left
  ·exact absurd (show ((i+w.length:Nat):Int)=s.length by omega) (A1 j)
  refine k2 ?_;refine A7 (A6 (A8 Z Z) Z (A6 (A9 Z Z) Z (A6 (A9 Z Z) Z (B0 ?_))));refine k1 (I2 (H9 (N8 (H9 (N8 ?_)))));refine B4 (rs:=[cY (d.take k++[w]),G1 true]) (i7 Z Z Z Z Z) ?_;have O:d=d.take (k+1):=by
   have z:=JH (k+1) d;rw[y,JC]at z;exact z.symm
  rw[<-D,<-O]
 ·rw[y,m9]at v;rw[y,m9,HW,HU]at m;have H:s[i+w.length]?=some 32:=by
   rw[<-IE,v,II (Nat.le_refl _),JN];rfl
  refine B2 rfl (fun j=>?_) (fun j=>?_)
  ·have:=A0 j;omega
  refine k5 (k1 (k2 (k2 ?_)));refine A7 (A6 (A8 Z Z) Z (A6 (A8 Z Z) Z (A6 (C3 Z) Z (A6 (B3 Z) Z (A6 (B8 Z Z Z) Z (A6 (K3 Z Z (by omega) (by rw[HS];exact H)) Z ?_))))));refine A6 (L8 Z Z) Z (B0 ?_);refine k1 ?_;refine B2 rfl (fun j=>?_) (fun j=>?_)
  ·exact absurd rfl (A0 j)
  refine k5 (k1 ?_);refine A7 (A6 (A8 Z Z) Z (A6 (C3 Z) Z (A6 (B3 Z) Z (A6 (B8 Z Z Z) Z (A6 (E2 Z Z (by omega)) Z (A6 (C3 Z) Z (A6 (B3 Z) Z (J8 (E0 TySz.out Z Z Z Z Z Z) (B0 ?_)))))))));refine k4 (k1 ?_);have A:k+1<d.length:=by
   have:=congrArg List.length y;rw[JB,HU]at this;omega
  refine⟨(k+1,i+w.length+1),⟨A,?_,by dsimp only;have:=qQ x r;have:=List.length_pos_iff.2 (F x (List.mem_of_mem_drop (by rw[y];exact List.mem_cons_self ..))).1;omega⟩,by dsimp only;omega,?_⟩
  ·dsimp only;rw[y,Nat.add_assoc,<-List.drop_drop,v];exact wL _ _ _
  ·dsimp only;rw[D];exact Sees.of ⟨B5 rfl,B5 rfl,B5 rfl,B5 rfl,trivial⟩ ⟨rfl,rfl,trivial⟩
theorem yI(f:CForm)(c:List Str)(hw:∀w∈c,w.length<=1048576)(hl:c.length<=1048576) :
  FnOk Tryz.prog 157 [yY f,cY c] (fun rs=>rs=[j7 ((Z1 f c).getD cN),G1 (Z1 f c).isSome]):=by
 have k:=qS f c;obtain⟨L,U⟩:∃L,L=O9 f:=⟨_,rfl⟩
 obtain⟨W,J⟩:∃W,W=bR f c:=⟨_,rfl⟩
 obtain⟨H,B⟩:∃H,H=jS f c:=⟨_,rfl⟩
 obtain⟨R,hR⟩:∃R,R=Z1 f c:=⟨_,rfl⟩
 have ab:∀w∈W,w.length<=1048576:=fun w h=>hw w (wJ (by rw[<-J];exact h));have aa:=wK f c;have V:=qO f;rw[<-U,<-J,<-B,<-hR]at k;rw[<-J]at aa;rw[<-U]at V;rw[<-hR];refine FnOk.intro Tryz.func157 (by decide) Z Z Z Z ?_;refine k2 ?_;refine A7 (E1 (bC 2 Z Z Z) Z (E1 (P2 4 Z) Z (A6 (A9 Z Z) Z (B0 ?_))));refine k1 (k2 ?_);refine A7 (A6 (B3 Z) Z (A6 (B8 Z Z Z) Z (A6 (B3 Z) Z (A6 (B8 Z Z Z) Z (A6 (J2 Z) Z (E1 (P2 6 Z) Z (J8 (E0 TySz.out Z Z Z Z Z Z) (B0 ?_))))))));refine k1 (k2 ?_);refine A7 (A6 (G7 Z Z Z) Z (dF (dP f Z Z) Z Z Z ?_));rintro _ _ ⟨rfl,rfl⟩;refine A6 (A9 Z Z) Z (B0 ?_);rw[<-U];refine k1 (k2 (k2 ?_));refine A7 (A6 (B3 Z) Z (A6 (B8 Z Z Z) Z (B0 ?_)));refine k1 ?_;refine xV (X:=Unit) (fun _=>([(1,D9 Str 1 n9 W),(4,.s (.one (.ref 4 0))),(6,.s (.one (.ref 6 0))),(7,.s (.one (.mut 751)))],[(4,.box (z7 cN)),(6,.box (z7 H)),(751,vP L)])) (fun _=>¬(f.text=true/\c=[])) ?_ ?_
 ·skip;refine B2 rfl (fun d=>?_) (fun d=>?_)
  ·have hb:f.text=true:=d;refine k2 (k2 ?_);refine A7 (A6 (A8 Z Z) Z (A6 (F3 Z (.pure _ _ _ _)) Z (A6 (J9 Z Z) Z (B0 ?_))));refine k1 ?_;refine B2 rfl (fun d=>?_) (fun d=>?_)
   ·have he:c=[]:=by
     have I:=A0 d;exact List.length_eq_zero_iff.1 (by omega)
    rw[A4 ⟨hb,he⟩]at k;refine k2 ?_;refine A7 (A6 (J2 Z) Z (J8 (E0 TySz.out Z Z Z Z Z Z) (A6 (A9 Z Z) Z (B0 ?_))));refine k1 (I2 (H9 (H9 ?_)));exact B4 (rs:=[j7 cN,G1 false]) (gY rfl rfl rfl rfl rfl rfl rfl) (by rw[k];rfl)
   have q:¬c=[]:=fun e=>by
    have I:=A1 d;rw[e]at I;exact I rfl
   have af:=List.length_pos_iff.2 q;have F:c[((c.length:Int)-1).toNat]?=some (c.getLastD []):=by
    rw[show ((c.length:Int)-1).toNat=c.length-1 by omega,<-List.getLast?_eq_getElem?,List.getLastD_eq_getLast?];cases h:c.getLast? with
    | none=>exact absurd (List.getLast?_eq_none_iff.1 h) q
    | some x=>rfl
   have ad:c.take ((c.length:Int)-1).toNat=W:=by
    rw[J];unfold bR;rw[A4 hb,List.dropLast_eq_take,show ((c.length:Int)-1).toNat=c.length-1 by omega]
   have C:H=⟨f.kind,0,0,0,f.dense,c.getLastD []⟩:=by rw[B];unfold jS;rw[A4 hb]
   subst C;refine k5 (k1 (k2 ?_));refine A7 (A6 (A8 Z Z) Z (A6 (A8 Z Z) Z (A6 (F3 Z (.pure _ _ _ _)) Z (A6 (bA Z Z (by omega)) Z (A6 (B7 Z (.pure _ _ _ _) Z (by omega) F) Z (A6 (B9 Z Z) Z (A6 (B3 Z) Z (J8 (E0 TySz.out Z Z Z Z Z Z) (B0 ?_)))))))));refine k1 ?_;refine A7 (A6 (A8 Z Z) Z (A6 (A8 Z Z) Z (A6 (F3 Z (.pure _ _ _ _)) Z (A6 (bA Z Z (by omega)) Z (A6 (eQ Z (.pure _ _ _ _) Z (by omega) (by omega)) Z (A6 (A9 Z Z) Z (B0 ?_)))))));rw[ad];refine k1 ?_;exact⟨(),(fun h=>q h.2),(Sees.of ⟨B5 rfl,B5 rfl,B5 rfl,B5 rfl,trivial⟩ ⟨rfl,rfl,rfl,trivial⟩)⟩
  ·have hb:f.text=false:=d;have C:H=⟨f.kind,0,0,0,f.dense,[]⟩:=by rw[B];unfold jS;rw[A5 (by rw[hb];decide)]
   have Y:W=c:=by rw[J];unfold bR;rw[A5 (by rw[hb];decide)]
   subst C Y;refine k5 (k1 ?_);exact⟨(),(fun h=>by rw[hb]at h;cases h.1),(Sees.of ⟨B5 rfl,B5 rfl,B5 rfl,B5 rfl,trivial⟩ ⟨rfl,rfl,rfl,trivial⟩)⟩
 rintro _ K;dsimp only;rw[A5 K]at k;refine k2 (k2 ?_);refine A7 (A6 (A8 Z Z) Z (A6 (F3 Z (.pure _ _ _ _)) Z (A6 (A8 Z Z) Z (A6 (pJ Z Z) Z (A6 (L8 Z Z) Z (B0 ?_))))));refine k1 ?_;refine B2 rfl (fun d=>?_) (fun d=>?_)
 ·have q:W.length≠L.length:=fun e=>by
   have I:=A0 d;omega
  rw[A4 q]at k;refine k2 ?_;refine A7 (A6 (J2 Z) Z (J8 (E0 TySz.out Z Z Z Z Z Z) (A6 (A9 Z Z) Z (B0 ?_))));refine k1 (I2 (H9 ?_));exact B4 (rs:=[j7 cN,G1 false]) (gY rfl rfl rfl rfl rfl rfl rfl) (by rw[k];rfl)
 have A:W.length=L.length:=by have I:=A1 d;omega
 rw[A5 (fun e=>e A)]at k;refine k5 (k1 (k2 (k2 ?_)));refine A7 (A6 (A8 Z Z) Z (A6 (F3 Z (.pure _ _ _ _)) Z (A6 (A8 Z Z) Z (B0 ?_))));refine k1 (k3 ?_);refine D3 (X:=Nat×Cmd) (fun x=>([(4,.s (.one (.ref 4 0))),(6,.s (.one (.ref 6 0))),(7,.s (.one (.mut 751))),(44,D9 Str 1 n9 W),(45,D5 W.length),(46,D5 x.1)],[(4,.box (z7 cN)),(6,.box (z7 x.2)),(751,vP L)])) (fun x=>x.1<=L.length/\R=r8 (L.drop x.1) (W.drop x.1) x.2) (fun x=>L.length-x.1) (0,H) ⟨Nat.zero_le _,k⟩ (Sees.of ⟨B5 rfl,B5 rfl,B5 rfl,B5 rfl,B5 rfl,B5 rfl,trivial⟩ ⟨rfl,rfl,rfl,trivial⟩) ?_;rintro⟨j,cj⟩ ⟨hj,y⟩;dsimp only at hj y ⊢;refine k2 ?_;refine A7 (A6 (E9 Z Z) Z (B0 ?_));refine k1 (k2 ?_);refine B2 rfl (fun d=>?_) (fun d=>?_);rotate_left
 ·have ac:j=L.length:=by have:=A1 d;omega
  rw[ac,List.drop_length,<-A,List.drop_length]at y;unfold r8 at y;refine k6 (k2 ?_);refine A7 (A6 (G7 Z Z Z) Z (J8 (E0 TySz.out Z Z Z Z Z Z) (A6 (A9 Z Z) Z (B0 ?_))));refine k1 (I2 ?_);exact B4 (rs:=[j7 cj,G1 true]) (gY rfl rfl rfl rfl rfl rfl rfl) (by rw[y];rfl)
 have E:j<L.length:=by have:=A0 d;omega
 have O:j<W.length:=by omega
 obtain⟨o,ho⟩:∃o,o=L[j]:=⟨_,rfl⟩
 have Q:L[j]?=some o:=by rw[ho];exact HQ E
 obtain⟨w,T⟩:∃w,w=W[j]:=⟨_,rfl⟩
 have G:W[j]?=some w:=by rw[T];exact HQ O
 have ag:=ab w (IP G);have P:=uX (f:=f) (o:=o) (by rw[<-U];exact IP Q);have ae:(yG L)[((j:Nat):Int).toNat*1+0]?=some (.ref 6 o):=by rw[HS,Nat.mul_one,Nat.add_zero,JE,Q];rfl
 have M:Nat.ble (o+1) 6=true:=by rcases P with rfl | rfl | rfl<;>rfl
 rw[IB E,<-ho,IB O,<-T,r8]at y;have v:=sS w 0 (Nat.zero_le _) (by omega);cases z:eE w with
 | none =>
  rw[z]at y;rw[vT (by rw[List.drop_zero];exact z)]at v;refine k5 (k1 (k2 (k3 (k2 ?_))));refine A7 (A6 (A8 Z Z) Z (A6 (B7 Z (.pure _ _ _ _) Z (by omega) G) Z (A6 (B9 Z Z) Z (A6 (A9 Z Z) Z (A6 (A9 Z Z) Z (B0 ?_))))));refine k1 (k2 ?_);refine A7 (A6 (A8 Z Z) Z (C9 (v) Z Z Z ?_));rintro _ rfl;refine A6 (A8 Z Z) Z (A6 (C1 Z Z) Z (A6 (C1 Z Z) Z (A6 (C1 Z Z) Z (A6 (A9 Z Z) Z (A6 (A9 Z Z) Z (A6 (A9 Z Z) Z (B0 ?_)))))));refine k1 (k2 (k2 ?_));refine A7 (A6 (A8 Z Z) Z (A6 (Z4 Z) Z (A6 (A8 Z Z) Z (B1 Z Z Z Z (fun l=>by rw[l];exact A8 Z Z) ?_))));refine B1 Z Z Z Z (fun l=>by rw[l];exact A8 Z Z) ?_;refine B1 Z Z Z Z (fun l=>by rw[l];exact H1 Z) ?_;refine B1 Z Z Z Z (fun l=>by rw[l];exact L8 Z Z) ?_;refine A6 (B6 Z (fun h=>by first | rfl | (rw[h];rfl)) (fun h=>by first | rfl | (rw[h];rfl))) Z ?_;refine B0 ?_;refine k1 ?_;refine B2 rfl (fun d=>?_) (fun d=>?_);rotate_left
  ·exact absurd d (by simp)
  refine k2 ?_;refine A7 (A6 (J2 Z) Z (J8 (E0 TySz.out Z Z Z Z Z Z) (A6 (A9 Z Z) Z (B0 ?_))));refine k1 (I2 (H9 (N8 (H9 (H9 (N8 (H9 ?_)))))));exact B4 (rs:=[j7 cN,G1 false]) (gY rfl rfl rfl rfl rfl rfl rfl) (by rw[y];rfl)
 | some p =>
  obtain⟨n,e⟩:=p;rw[z]at y;rw[vS (by rw[List.drop_zero];exact z)]at v;dsimp only at y;refine k5 (k1 (k2 (k3 (k2 ?_))));refine A7 (A6 (A8 Z Z) Z (A6 (B7 Z (.pure _ _ _ _) Z (by omega) G) Z (A6 (B9 Z Z) Z (A6 (A9 Z Z) Z (A6 (A9 Z Z) Z (B0 ?_))))));refine k1 (k2 ?_);refine A7 (A6 (A8 Z Z) Z (C9 (v) Z Z Z ?_));rintro _ rfl;refine A6 (A8 Z Z) Z (A6 (C1 Z Z) Z (A6 (C1 Z Z) Z (A6 (C1 Z Z) Z (A6 (A9 Z Z) Z (A6 (A9 Z Z) Z (A6 (A9 Z Z) Z (B0 ?_)))))));refine k1 (k2 (k2 ?_));refine A7 (A6 (A8 Z Z) Z (A6 (Z4 Z) Z (A6 (A8 Z Z) Z (B1 Z Z Z Z (fun l=>by rw[l];exact A8 Z Z) ?_))));refine B1 Z Z Z Z (fun l=>by rw[l];exact A8 Z Z) ?_;refine B1 Z Z Z Z (fun l=>by rw[l];exact H1 Z) ?_;refine B1 Z Z Z Z (fun l=>by rw[l];exact L8 Z Z) ?_;refine A6 (B6 Z (fun h=>by first | rfl | (rw[h];rfl)) (fun h=>by first | rfl | (rw[h];rfl))) Z ?_;refine B0 ?_;refine k1 ?_;refine B2 rfl (fun d=>?_) (fun d=>?_)
  ·have q:¬e=w.length:=fun h=>by
    revert d;simp[h]
   rw[A5 q]at y;refine k2 ?_;refine A7 (A6 (J2 Z) Z (J8 (E0 TySz.out Z Z Z Z Z Z) (A6 (A9 Z Z) Z (B0 ?_))));refine k1 (I2 (H9 (N8 (H9 (H9 (N8 (H9 ?_)))))));exact B4 (rs:=[j7 cN,G1 false]) (gY rfl rfl rfl rfl rfl rfl rfl) (by rw[y];rfl)
  have he:e=w.length:=by
   apply Classical.byContradiction;intro h;revert d;simp;omega
  rw[A4 he]at y;refine k5 (k1 ?_);refine A7 (A6 (A8 Z Z) Z (A6 (A8 Z Z) Z (A6 (x6 Z Z Z (by omega) (by omega)) Z (A6 (lM Z Z ae) Z (A6 (A8 Z Z) Z (A6 (C3 Z) Z (J8 (E0 TySz.out Z Z Z Z Z (M)) (B0 ?_))))))));refine k4 (k1 ?_);refine A7 (A6 (E2 Z Z (by omega)) Z (A6 (A8 Z Z) Z (B0 ?_)));refine k1 ?_;exact⟨(j+1,cj.put o n),⟨E,y⟩,by dsimp only;omega,(by dsimp only;rw[<-qP (n:Int) P];exact (Sees.of ⟨B5 rfl,B5 rfl,B5 rfl,B5 rfl,B5 rfl,B5 rfl,trivial⟩ ⟨rfl,rfl,rfl,trivial⟩))⟩
theorem vV(l:Str)(q:List Str)(D:q≠[])(K:∀w∈q,w.length<=1048576)(I:q.length<=1048576)(G:FnOk Tryz.prog 13 [F9 l] (fun rs=>rs=[cY q,G1 true])) :
  FnOk Tryz.prog 101 [F9 l] (fun rs=>rs=[j7 (cO q).1,D0 (cO q).2]):=by
 obtain⟨w,r,rfl⟩:=List.exists_cons_of_ne_nil D;obtain⟨R,F⟩:∃R,R=cO (w::r):=⟨_,rfl⟩
 have v:R=match r9 w r formsL with
  | some c=>(c,0)
  | none=>(cN,320):=F
 rw[<-F];refine FnOk.intro Tryz.func101 (by decide) Z Z Z Z ?_;refine k2 ?_;refine A7 (E1 (P2 2 Z) Z (A6 (A9 Z Z) Z (B0 ?_)));refine k1 (k2 ?_);refine A7 (A6 (A8 Z Z) Z (C9 (G) Z Z Z ?_));rintro _ rfl;refine A6 (A8 Z Z) Z (A6 (C1 Z Z) Z (A6 (C1 Z Z) Z (A6 (A9 Z Z) Z (A6 (A9 Z Z) Z (B0 ?_)))));refine k1 (k2 (k2 ?_));refine A7 (A6 (A8 Z Z) Z (A6 (Z4 Z) Z (A6 (A8 Z Z) Z (B1 Z Z Z Z (fun z=>by rw[z];exact A8 Z Z) ?_))));refine B1 Z Z Z Z (fun z=>by rw[z];exact F3 Z (.pure _ _ _ _)) ?_;refine B1 Z Z Z Z (fun z=>by rw[z];exact J9 Z Z) ?_;refine A6 (B6 Z (fun h=>by first | rfl | (rw[h];rfl)) (fun h=>by first | rfl | (rw[h];rfl))) Z ?_;refine B0 ?_;refine k1 ?_;refine B2 rfl (fun d=>?_) (fun d=>?_)
 ·exfalso;revert d;simp
  try omega
 refine k5 (k1 (k2 (k2 ?_)));refine A7 (C9 (lT) Z Z Z ?_);rintro _ rfl;refine A6 (F3 Z (.pure _ _ _ _)) Z (A6 (A8 Z Z) Z (B0 ?_));refine k1 (k3 ?_);refine D3 (X:=Nat) (fun i=>([(2,.s (.one (.ref 2 0))),(4,D9 Str 1 n9 (w::r)),(23,D9 CForm 6 jO formsL),(24,D5 10),(25,D5 i)],[(2,.box (z7 cN))])) (fun i=>i<=10/\r9 w r formsL=r9 w r (formsL.drop i)) (fun i=>10-i) 0 ⟨Nat.zero_le _,rfl⟩ (Sees.of ⟨B5 rfl,B5 rfl,B5 rfl,B5 rfl,B5 rfl,trivial⟩ ⟨rfl,trivial⟩) ?_;rintro i ⟨H,j⟩;dsimp only at H j ⊢;refine k2 ?_;refine A7 (A6 (E9 Z Z) Z (B0 ?_));refine k1 (k2 ?_);refine B2 rfl (fun d=>?_) (fun d=>?_);rotate_left
 ·have C:i=10:=by have:=A1 d;omega
  subst C;have m:R=(cN,320):=by rw[v,j];rfl
  refine k6 (k2 ?_);refine A7 (A6 (J2 Z) Z (J8 (E0 TySz.out Z Z Z Z Z Z) (A6 (A9 Z Z) Z (B0 ?_))));refine k1 (I2 ?_);exact B4 (rs:=[j7 cN,D0 320]) (gY rfl rfl rfl rfl rfl rfl rfl) (by rw[m])
 have k:i<formsL.length:=by have h:=A0 d;show i<10;omega
 obtain⟨f,y⟩:∃f,f=formsL[i]:=⟨_,rfl⟩
 have J:formsL[i]?=some f:=by rw[y];exact HQ k
 rw[IB k,<-y,r9]at j;refine k5 (k1 (k2 (k3 (k2 ?_))));refine A7 (A6 (B7 Z (.pure _ _ _ _) Z (by omega) J) Z (A6 (K6 Z Z) Z (E1 (P2 7 Z) Z (J8 (E0 TySz.out Z Z Z Z Z Z) (B0 ?_)))));refine k1 (k2 (k2 ?_));refine M6 (by kernel_rfl) (by kernel_rfl) (D6 (B3 Z) Z Z (D6 (B8 Z Z Z) Z Z (D6 (A8 Z Z) Z Z (D6 (B7 Z (.pure _ _ _ _) Z (by omega) (show (w::r)[(0:Int).toNat]?=some w from Z)) Z Z (D6 (B9 Z Z) Z Z (D6 (mM Z Z) Z Z (dB ?_)))))));refine k1 ?_;refine B2 rfl (fun d=>?_) (fun d=>?_)
 ·have E:f.word≠w:=A0 d;rw[A4 E]at j;refine k6 (k7 (k8 Z (k1 ?_)));refine A7 (A6 (E2 Z Z (by omega)) Z (A6 (A8 Z Z) Z (B0 ?_)));refine k1 ?_;exact⟨i+1,⟨k,j⟩,by have:formsL.length=10:=rfl;omega,Sees.of ⟨B5 rfl,B5 rfl,B5 rfl,B5 rfl,B5 rfl,trivial⟩ ⟨rfl,trivial⟩⟩
 have B:¬f.word≠w:=A1 d;rw[A5 B]at j;have g:=yI f r (fun x L=>K x (by simp[L])) (by simp only[HU]at I;omega);cases A:Z1 f r with
 | some c =>
  rw[A]at g j;have m:R=(c,0):=by rw[v,j]
  refine k5 (k1 (k2 ?_));refine dK [8,7] [[],[7],[8,7]] [(0,[7]),(1,[7]),(2,[7]),(3,[7]),(4,[7]),(5,[7]),(6,[7]),(6,[8,7])] (by kernel_rfl) (by kernel_rfl) (X4 Z (G7 Z Z Z) (X4 Z (A8 Z Z) (X4 Z (aI Z (.pure _ _ _ _) Z (by ((try simp only[HU]);omega)) (by ((try simp only[HU]);omega))) ?_)));refine X4 Z (M2 (g) Z Z) (X4 Z (A8 Z Z) (X4 Z (C1 Z Z) (X4 Z (C1 Z Z) (uB 8 Z Z (uC (fR TySz.out Z Z Z Z Z Z) (X4 Z (A9 Z Z) ?_))))));refine BL rfl ?_ ?_
  ·refine X5 Z Z (G7 Z Z Z) (X5 Z Z (A8 Z Z) (X5 Z Z (aI Z (.pure _ _ _ _) Z (by ((try simp only[HU]);omega)) (by ((try simp only[HU]);omega))) ?_));refine X5 Z Z (M2 (g) Z Z) (X5 Z Z (A8 Z Z) (X5 Z Z (C1 Z Z) (X5 Z Z (C1 Z Z) (X5 Z Z (C1 Z Z) ?_))));exact BM
  refine k1 (k2 ?_);refine A7 (A6 (A8 Z Z) Z (B0 ?_));refine k1 ?_;refine B2 rfl (fun d=>?_) (fun d=>?_);rotate_left
  ·cases d
  refine k2 ?_;refine A7 (A6 (G7 Z Z Z) Z (J8 (E0 TySz.out Z Z Z Z Z Z) (A6 (A9 Z Z) Z (B0 ?_))));refine k1 (I2 (N8 (H9 (H9 (N8 (H9 ?_))))));exact B4 (rs:=[j7 c,D0 0]) (gY rfl rfl rfl rfl rfl rfl rfl) (by rw[m])
 | none =>
  rw[A]at g j;refine k5 (k1 (k2 ?_));refine dK [8,7] [[],[7],[8,7]] [(0,[7]),(1,[7]),(2,[7]),(3,[7]),(4,[7]),(5,[7]),(6,[7]),(6,[8,7])] (by kernel_rfl) (by kernel_rfl) (X4 Z (G7 Z Z Z) (X4 Z (A8 Z Z) (X4 Z (aI Z (.pure _ _ _ _) Z (by ((try simp only[HU]);omega)) (by ((try simp only[HU]);omega))) ?_)));refine X4 Z (M2 (g) Z Z) (X4 Z (A8 Z Z) (X4 Z (C1 Z Z) (X4 Z (C1 Z Z) (uB 8 Z Z (uC (fR TySz.out Z Z Z Z Z Z) (X4 Z (A9 Z Z) ?_))))));refine BL rfl ?_ ?_
  ·refine X5 Z Z (G7 Z Z Z) (X5 Z Z (A8 Z Z) (X5 Z Z (aI Z (.pure _ _ _ _) Z (by ((try simp only[HU]);omega)) (by ((try simp only[HU]);omega))) ?_));refine X5 Z Z (M2 (g) Z Z) (X5 Z Z (A8 Z Z) (X5 Z Z (C1 Z Z) (X5 Z Z (C1 Z Z) (X5 Z Z (C1 Z Z) ?_))));exact BM
  refine k1 (k2 ?_);refine A7 (A6 (A8 Z Z) Z (B0 ?_));refine k1 ?_;refine B2 rfl (fun d=>?_) (fun d=>?_)
  ·cases d
  refine k5 (k4 (k1 ?_));refine A7 (A6 (E2 Z Z (by omega)) Z (A6 (A8 Z Z) Z (B0 ?_)));refine k1 ?_;exact⟨i+1,⟨k,j⟩,by have:formsL.length=10:=rfl;omega,Sees.of ⟨B5 rfl,B5 rfl,B5 rfl,B5 rfl,B5 rfl,trivial⟩ ⟨rfl,trivial⟩⟩
theorem iZ(a:List Str)(c:a≠[])(d:∀w∈a,w≠[]/\w.all L0=true/\w.length<=1048576)(f:(I9 a).length<=1048576) :
  FnOk Tryz.prog 101 [F9 (I9 a)] (fun i=>i=[j7 (cO a).1,D0 (cO a).2]) :=
 vV (I9 a) a c (fun w b=>(d w b).2.2) (Nat.le_trans (jT a fun w b=>(d w b).1) f) (sT a c (fun w b=>⟨(d w b).1,(d w b).2.1⟩) f)
theorem lW(s:Str)(J:s.length<=536870912):FnOk Tryz.prog 52 [F9 s] (fun rs=>rs=[cY (s7 s).1,D0 (s7 s).2]):=by
 obtain⟨R,F⟩:∃R,R=s7 s:=⟨_,rfl⟩
 have b:=F;unfold s7 at b;rw[<-F];refine FnOk.intro Tryz.func52 (by decide) Z Z Z Z ?_;refine k2 ?_;refine A7 (A6 (L7 _ 1 n9) Z (A6 (A9 Z Z) Z (B0 ?_)));refine k1 (k2 (k2 ?_));refine A7 (A6 (A8 Z Z) Z (A6 (H1 Z) Z (A6 (N1 Z Z) Z (B0 ?_))));refine k1 ?_;refine B2 rfl (fun d=>?_) (fun d=>?_)
 ·have q:65536<s.length:=by have:=A0 d;omega
  rw[A4 q]at b;refine k2 ?_;refine A7 (A6 (L7 _ 1 n9) Z (A6 (A9 Z Z) Z (B0 ?_)));refine k1 (I2 (H9 ?_));exact B4 (rs:=[cY [],D0 1]) (i7 rfl rfl rfl rfl rfl) (by rw[b])
 have q:¬65536<s.length:=by have:=A1 d;omega
 rw[A5 q]at b;obtain⟨P,E⟩:∃P,P=X9 s:=⟨_,rfl⟩
 have B:∀t∈P.1,t.length<=1048576:=by
  intro t p;rw[E]at p;unfold X9 at p;split at p
  ·cases p
  ·have x:=(tE s).1;have M:t.length<=(H0 s).flatten.length:=(List.sublist_flatten_of_mem p).length_le;omega
 have G:=sN s J;rw[<-E]at G b;refine k5 (k1 (k2 ?_));refine A7 (A6 (A8 Z Z) Z (lK (G) Z Z Z Z ?_));rintro _ _ ⟨rfl,rfl⟩;refine⟨rfl,?_⟩;refine A6 (A8 Z Z) Z (A6 (C1 Z Z) Z (A6 (C1 Z Z) Z (A6 (A9 Z Z) Z (A6 (A9 Z Z) Z (B0 ?_)))));refine k1 (k2 (k2 ?_));refine A7 (A6 (A8 Z Z) Z (A6 (L8 Z Z) Z (A6 (A8 Z Z) Z (B1 Z Z Z Z (fun z=>by rw[z];exact A8 Z Z) ?_))));refine B1 Z Z Z Z (fun z=>by rw[z];exact o5 Z Z) ?_;refine B1 Z Z Z Z (fun z=>by rw[z];exact N1 Z Z) ?_;refine A6 (B6 Z (fun h=>by first | rfl | (rw[h];rfl)) (fun h=>by first | rfl | (rw[h];rfl))) Z ?_;refine B0 ?_;refine k1 ?_;refine B2 rfl (fun d=>?_) (fun d=>?_)
 ·have x:P.2≠0\/100<P.1.length:=by
   rw[or_pick]at d;have:=A0 d;omega
  rw[A4 x]at b;refine k2 ?_;refine A7 (A6 (L7 _ 1 n9) Z (A6 (A9 Z Z) Z (B0 ?_)));refine k1 (I2 (H9 ?_));exact B4 (rs:=[cY [],D0 1]) (i7 rfl rfl rfl rfl rfl) (by rw[b])
 have x:¬(P.2≠0\/100<P.1.length):=by
  rw[or_pick]at d;have:=A1 d;omega
 rw[A5 x]at b;have H:P.1.length<=100:=by omega
 refine k5 (k1 (k2 (k2 ?_)));refine A7 (A6 (A8 Z Z) Z (A6 (o5 Z Z) Z (A6 (A8 Z Z) Z (B0 ?_))));refine k1 (k3 ?_);refine D3 (X:=Nat) (fun i=>([(4,.s (.one (.mut 9))),(23,.s (.one (.mut 9))),(24,D5 P.1.length),(25,D5 i)],[(9,aL (d8 P.1 i))])) (fun i=>i<=P.1.length) (fun i=>P.1.length-i) 0 (Nat.zero_le _) (by dsimp only;rw[tJ];exact (Sees.of ⟨B5 rfl,B5 rfl,B5 rfl,B5 rfl,trivial⟩ ⟨rfl,trivial⟩)) ?_;intro i I;dsimp only at I ⊢;have y:=wS P.1 i;refine k2 ?_;refine A7 (A6 (E9 Z Z) Z (B0 ?_));refine k1 (k2 ?_);refine B2 rfl (fun d=>?_) (fun d=>?_)
 ·have v:i<P.1.length:=by have q:=A0 d;(try dsimp only at q);omega
  obtain⟨t,w⟩:∃t,t=P.1[i]:=⟨_,rfl⟩
  have L:(d8 P.1 i)[i]?=some t:=by rw[w];exact wT v
  have A:(d8 P.1 i)[((i:Nat):Int).toNat]?=some t:=by rw[HS];exact L
  have r:=wU v;rw[<-w]at r;have K:t.length<=1048576:=B t (by rw[w];exact HT v);have C:FnOk Tryz.prog 99 [F9 t,F9 [10]] (fun rs=>rs=[F9 (aG t)]):=kL t [10] (by omega);refine k5 (k1 (k2 (k3 (k2 ?_))));refine A7 (A6 (A8 Z Z) Z (A6 (N9 Z Z Z (by omega) (by (rw[y];omega))) Z ?_));refine A6 (iN Z Z A Z) Z (A6 (A9 Z Z) Z (A6 (A9 Z Z) Z (B0 ?_)));refine k1 ?_;refine A7 (A6 (A8 Z Z) Z (A6 (A8 Z Z) Z (A6 (A8 Z Z) Z (C9 (C) Z Z Z ?_))));rintro _ rfl;refine A6 (N9 Z Z Z (by omega) (by (rw[y];omega))) Z ?_;refine J8 (eW ((aG t)) TySz.out Z Z A Z Z Z Z (fun _ _ _ h=>dG h) (by intro j q x;rcases j with _ | _ | _ | _ | _ | _ | _ | j<;>first | rfl | omega)) ?_;refine B0 ?_;refine k4 (k1 ?_);refine A7 (A6 (E2 Z Z (by omega)) Z (A6 (A8 Z Z) Z (B0 ?_)));refine k1 ?_;exact⟨i+1,by omega,by omega,(by rw[<-r];exact (Sees.of ⟨B5 rfl,B5 rfl,B5 rfl,B5 rfl,trivial⟩ ⟨rfl,trivial⟩))⟩
 have D:i=P.1.length:=by have q:=A1 d;(try dsimp only at q);omega
 rw[D,wV];refine k6 (k2 ?_);refine A7 (A6 (A8 Z Z) Z (A6 (A9 Z Z) Z (A6 (A9 Z Z) Z (B0 ?_))));refine k1 (Q7 (Sees.freezeG (k:=9) (α:=Str) (ec:=1) (c:=n9) (xs:=P.1.map aG) (e:=9) rfl rfl) ?_);refine I2 ?_;exact B4 (rs:=[cY (P.1.map aG),D0 0]) (i7 rfl rfl rfl rfl rfl) (by rw[b])
theorem sU(ns:List Int)(h:ns.length<=8):FnOk Tryz.prog 77 [P5 ns] (fun rs=>rs=[F9 (s5 ns++[10])]):=by
 have g:c7 ns 0=[99,111,109,109,105,116]:=by simp[c7,gS]
 refine FnOk.intro Tryz.func77 (by decide) Z Z Z Z ?_;refine k2 ?_;refine A7 (A6 (A9 Z Z) Z (B0 ?_));refine k1 (k2 ?_);refine A7 (A6 (A9 Z Z) Z (B0 ?_));refine k1 (k2 (k2 ?_));refine A7 (A6 (A8 Z Z) Z (A6 (F3 Z (.pure _ _ _ _)) Z (A6 (A8 Z Z) Z (B0 ?_))));refine k1 (k3 ?_);refine D3 (X:=Nat) (fun i=>([(3,L6 (c7 ns i)),(6,D9 Int 1 K4 ns),(7,D5 ns.length),(8,D5 i)],[])) (fun i=>i<=ns.length) (fun i=>ns.length-i) 0 (Nat.zero_le _) (by dsimp only;rw[g];exact (Sees.of ⟨B5 rfl,B5 rfl,B5 rfl,B5 rfl,trivial⟩ trivial)) ?_;intro i k;dsimp only at k ⊢;have l:=aR ns i;refine k2 ?_;refine A7 (A6 (E9 Z Z) Z (B0 ?_));refine k1 (k2 ?_);refine B2 rfl (fun d=>?_) (fun d=>?_)
 ·have c:i<ns.length:=by have a:=A0 d;(try dsimp only at a);omega
  obtain⟨n,m⟩:∃n,n=ns[i]:=⟨_,rfl⟩
  have f:ns[i]?=some n:=by rw[m];exact HQ c
  have j:=aN n;have o:=jU f;refine k5 (k1 (k2 (k3 (k2 ?_))));refine A7 (A6 (B7 Z (.pure _ _ _ _) Z (by omega) f) Z (A6 (B9 Z Z) Z (A6 (A9 Z Z) Z (B0 ?_))));refine k1 ?_;refine A7 (A6 (A8 Z Z) Z (A6 (A8 Z Z) Z (C9 (cG n) Z Z Z ?_)));rintro _ rfl;refine A6 (L9 Z Z (by (simp;omega))) Z (A6 (L9 Z Z (by (simp;omega))) Z (A6 (A9 Z Z) Z (B0 ?_)));rw[<-o];refine k4 (k1 ?_);refine A7 (A6 (E2 Z Z (by omega)) Z (A6 (A8 Z Z) Z (B0 ?_)));refine k1 ?_;exact⟨i+1,by omega,by omega,Sees.of ⟨B5 rfl,B5 rfl,B5 rfl,B5 rfl,trivial⟩ trivial⟩
 have b:i=ns.length:=by have a:=A1 d;(try dsimp only at a);omega
 rw[b]at l ⊢;refine k6 (k2 ?_);refine A7 (A6 (A8 Z Z) Z (A6 (L9 Z Z (by (simp;omega))) Z (A6 (A9 Z Z) Z (B0 ?_))));refine k1 (I2 ?_);exact B4 (rs:=[F9 (c7 ns ns.length++[10])]) (G8 rfl rfl rfl) rfl
theorem x9(l:List Int)(e:Int)(h:l.length<=1000):FnOk Tryz.prog 33 [P5 l,D0 e] (fun rs=>rs=[F9 (zB (l.map fun c=>[c])),D0 e]):=by
 obtain⟨L,a⟩:∃L:List (List Int),L=l.map fun c=>[c]:=⟨_,rfl⟩
 have v:L.length=l.length:=by rw[a,IX]
 have x:∀ns∈L,ns.length<=1:=fun ns b=>by
  rw[a]at b;obtain⟨c,_,rfl⟩:=IQ.1 b;exact Nat.le_refl _
 rw[<-a];refine FnOk.intro Tryz.func33 (by decide) Z Z Z Z ?_;refine k2 ?_;refine A7 (A6 (A9 Z Z) Z (A6 (A9 Z Z) Z (B0 ?_)));refine k1 (k2 ?_);refine A7 (A6 (A9 Z Z) Z (B0 ?_));refine k1 (k2 (k2 ?_));refine A7 (A6 (A8 Z Z) Z (A6 (F3 Z (.pure _ _ _ _)) Z (A6 (A8 Z Z) Z (B0 ?_))));refine k1 (k3 ?_);refine D3 (X:=Nat) (fun i=>([(1,D5 e),(6,L6 (c8 L i)),(9,D9 Int 1 K4 l),(10,D5 l.length),(11,D5 i)],[])) (fun i=>i<=l.length) (fun i=>l.length-i) 0 (Nat.zero_le _) (by dsimp only;rw[wM];exact (Sees.of ⟨B5 rfl,B5 rfl,B5 rfl,B5 rfl,B5 rfl,trivial⟩ trivial)) ?_;intro i w;dsimp only at w ⊢;have z:=mD x i;refine k2 ?_;refine A7 (A6 (E9 Z Z) Z (B0 ?_));refine k1 (k2 ?_);refine B2 rfl (fun m=>?_) (fun m=>?_)
 ·have k:i<l.length:=by have d:=A0 m;(try dsimp only at d);omega
  obtain⟨n,b⟩:∃n,n=l[i]:=⟨_,rfl⟩
  have s:l[i]?=some n:=by rw[b];exact HQ k
  have o:L[i]?=some [n]:=by rw[a,JE,s];rfl
  have y:=jV o;have f:=aR [n] 1;have q:(s5 [n]).length<=17:=f;refine k5 (k1 (k2 (k3 (k2 ?_))));refine A7 (A6 (B7 Z (.pure _ _ _ _) Z (by omega) s) Z (A6 (B9 Z Z) Z (A6 (A9 Z Z) Z (B0 ?_))));refine k1 ?_;refine A7 (A6 (A8 Z Z) Z (A6 (A8 Z Z) Z (A6 (G2 (c:=K4) (ys:=[n]) (F6 Z Z Z Z M3) Z Z Z) Z (C9 (sU [n] (by simp)) Z Z Z ?_))));rintro _ rfl;refine A6 (L9 Z Z (by (simp;omega))) Z (A6 (A9 Z Z) Z (B0 ?_));rw[<-y];refine k4 (k1 ?_);refine A7 (A6 (E2 Z Z (by omega)) Z (A6 (A8 Z Z) Z (B0 ?_)));refine k1 ?_;exact⟨i+1,by omega,by omega,Sees.of ⟨B5 rfl,B5 rfl,B5 rfl,B5 rfl,B5 rfl,trivial⟩ trivial⟩
 have j:i=L.length:=by have d:=A1 m;(try dsimp only at d);omega
 rw[j];refine k6 (k2 ?_);refine A7 (A6 (A8 Z Z) Z (A6 (A8 Z Z) Z (A6 (A9 Z Z) Z (A6 (A9 Z Z) Z (B0 ?_)))));refine k1 (I2 ?_);exact B4 (rs:=[F9 (c8 L L.length),D0 e]) (i7 rfl rfl rfl rfl rfl) rfl
end Go.Proofs.YtbflhoahmmfkmaaGreatDoor
