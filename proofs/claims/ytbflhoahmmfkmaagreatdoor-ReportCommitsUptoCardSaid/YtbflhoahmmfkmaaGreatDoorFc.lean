/- Walks of the program's functions. -/
import Derived.Test.YtbflhoahmmfkmaaGreatDoorFb
set_option linter.all false
namespace Go.Proofs.YtbflhoahmmfkmaaGreatDoor
open Go Go.AL
set_option maxRecDepth 100000
set_option maxHeartbeats 1000000
theorem five{p:Nat->Prop}(a:p 0)(b:p 1)(c:p 2)(d:p 3)(e:p 4):∀i,i<5->p i
 | 0,_=>a
 | 1,_=>b
 | 2,_=>c
 | 3,_=>d
 | 4,_=>e
theorem t8{K:List Nat}{T rest:Obs}{k:Nat}{o:Ob}(a:C5 rest k=none)(h:∀j x,K7 K j=false->C5 rest j=some x->C5 T j=some x):∀j x,K7 K j=false->C5 rest j=some x->C5 ((k,o)::T) j=some x:=by
 intro j x c b;have:k≠j:=fun e=>by rw[e,b]at a;cases a
 rw[C7 this];exact h j x c b
def M5(ks:List Nat)(ob:Obs):Obs:=ks.foldl (fun f k=>Obs.forget k f) ob
theorem aO{k:Nat}:∀{ks:List Nat} {ob:Obs},C5 ob k=none->C5 (M5 ks ob) k=none
 | [],_,h=>h
 | q::ks,ob,h=>aO (ks:=ks) (ob:=Obs.forget q ob) (by rw[J8,h];rfl)
theorem kD(k:Nat):∀(a:List Nat) (ob:Obs),M5 a (Obs.forget k ob)=Obs.forget k (M5 a ob)
 | [],_=>rfl
 | q::a,ob=>by
  show M5 a (Obs.forget q (Obs.forget k ob))=Obs.forget k (M5 a (Obs.forget q ob));rw[nO q k,kD k a]
theorem gV{k:Nat}:∀{a:List Nat} {ob:Obs},K7 a k=true->Obs.forget k (M5 a ob)=M5 a ob
 | [],ob,h=>by cases h
 | q::a,ob,h=>by
  show Obs.forget k (M5 a (Obs.forget q ob))=M5 a (Obs.forget q ob);by_cases b:k=q
  ·subst b;rw[kD,Obs.forget_idem]
  ·have c:K7 a k=true:=by
    rw[xL]at h ⊢;rcases VH.1 h with h | h
    ·exact absurd h b
    ·exact h
   exact gV c
theorem lR{K b:List Nat}{T ob:Obs}(k:Nat)(e:K7 b k=true)(h:∀j x,K7 K j=false->C5 (M5 b ob) j=some x->C5 T j=some x) :
  ∀j x,K7 K j=false->C5 (M5 b ob) j=some x->C5 (Obs.forget k T) j=some x:=by
 intro j x d a;rw[<-gV e,J8]at a;rw[J8];cases c:C5 (M5 b ob) j with
 | none=>rw[c]at a;cases a
 | some y=>rw[c]at a;rw[h j y d c];exact a
abbrev TI:AL.State:=⟨4,⟨0,0,0,0⟩,0,0⟩
abbrev TJ:AL.State:=⟨3,⟨0,0,0,0⟩,0,0⟩
abbrev RR:AL.State:=⟨0,⟨0,8589934592,0,0⟩,2,0⟩
abbrev UC:AL.State:=⟨1,⟨0,0,0,0⟩,3,1⟩
abbrev TK:AL.State:=⟨2,⟨0,0,0,0⟩,4,0⟩
theorem tI:FnOk Tryz.prog 74 [] (fun rs=>rs=[KW formsL]):=by
 refine FnOk.intro Tryz.func74 (by decide) Z Z Z Z ?_;refine k2 ?_;refine A7 (A6 (G8 _ 6 qU) Z (B0 ?_));refine k1 (k2 ?_);refine A7 (A6 (I9 Z) Z (A6 (I9 Z) Z (A6 (I9 Z) Z (A6 (I9 Z) Z (A6 (I9 Z) Z (A6 (I9 Z) Z (A6 (I9 Z) Z (A6 (I9 Z) Z (A6 (I9 Z) Z (A6 (I9 Z) Z (A6 (D2 (c:=qU) (ys:=formsL) (D6 Z Z Z Z (D6 Z Z Z Z (D6 Z Z Z Z (D6 Z Z Z Z (D6 Z Z Z Z (D6 Z Z Z Z (D6 Z Z Z Z (D6 Z Z Z Z (D6 Z Z Z Z (D6 Z Z Z Z G1)))))))))) Z Z Z) Z (A6 (A9 Z Z) Z (B0 ?_)))))))))))));refine k1 (I8 ?_);exact B9 (rs:=[KW formsL]) (I5 rfl rfl rfl) rfl
abbrev JX(l:List Nat):List TC:=l.map fun o=>.ref 6 o
abbrev GH(l:List Nat):Ob:=.growT 141 l.length 1 (JX l)
theorem kE{gf:Fr}{ob:Obs}(f:CForm)(z:C5 ob 751=none)(A:C5 ob 752=none) :
  AL.Met Tryz.prog 75 [(KV f).s1,.one (.ref 6 0)] gf ob [751,752] (fun rs ob'=>rs=[.one (.mut 751)]/\ob'=(751,GH (Q5 f))::M5 [751,752] ob):=by
 obtain⟨q,d⟩:∃l:List Nat,l=if f.b=true then [1,2] else [1]:=⟨_,rfl⟩
 have w:Q5 f=if f.c=true then q++[3] else q:=by rw[d];unfold Q5;cases f.b<;>cases f.c<;>rfl
 have B:q.length<=2:=by rw[d];split<;>decide
 have x:C5 (M5 [751,752] ob) 751=none:=aO z;have a:C5 (M5 [751,752] ob) 752=none:=aO A;refine AL.Met.introH Tryz.func75 (by decide) rfl rfl rfl (fun p=>?_);refine I7 (Sees.forget 751) ?_;refine I7 (Sees.forget 752) ?_;refine I7 (UF (gf':=C9 [751,752] gf) (l:=[(0,.s (KV f).s1),(1,.s (.one (.ref 6 0)))]) (ob':=M5 [751,752] ob) ⟨B1 rfl,B1 rfl,trivial⟩ (H8 p) (by repeat (first | exact B7 | refine tail_drop rfl ?_ | refine B8 rfl ?_ | refine N9 _ rfl ?_)) (fun _ _ h=>h)) ?_;refine k2 ?_;refine A7 (A6 (PD Z Z Z) Z (A6 (A9 Z Z) Z (B0 ?_)));refine k1 (k2 ?_);refine A7 (A6 (A8 Z Z) Z (A6 (C4 Z) Z (A6 (B2 Z) Z (D3 (FS 751 Z Z Z Z x Z) Z (A6 (A9 Z Z) Z (B0 ?_))))));refine k1 (k2 (k2 ?_));refine A7 (A6 (G5 Z) Z (A6 (C0 Z Z) Z (B0 ?_)));refine k1 ?_;refine bY ([(1,.s (.one (.ref 6 0))),(2,.s (.one (.eref Unit 6 (fun _ j=>(cellsOf qU f 0 6).getD j (.v undef)) () 0))),(5,.s (.one (.mut 751)))]++C9 [751,752] gf) ([(751,GH q)]++M5 [751,752] ob) ?_ ?_
 ·skip;refine B5 rfl (fun k=>?_) (fun k=>?_)
  ·have hb:f.b=true:=k;rw[A4 hb]at d;subst d;skip;refine A7 (A6 (A8 Z Z) Z (A6 (A8 Z Z) Z (A6 (C4 Z) Z (A6 (B2 Z) Z (D3 (pL 752 Z Z Z Z (by rw[C7 (by decide),J8,a];rfl) Z) Z ?_)))));refine D3 (bW Z Z Z Z (by decide) Z) Z (A6 (A9 Z Z) Z (B0 ?_));refine k1 ?_;exact UF ⟨B1 rfl,B1 rfl,B1 rfl,trivial⟩ (H8 p) (by repeat (first | exact B7 | refine tail_drop rfl ?_ | refine B8 rfl ?_ | refine N9 _ rfl ?_)) (M3 (L:=[(751,_)]) ⟨rfl,trivial⟩ (by repeat (first | exact J6 | refine N2 rfl ?_ | refine t8 a ?_ | refine lR _ rfl ?_)))
  ·have hb:f.b=false:=k;rw[A5 (by rw[hb];decide)]at d;subst d;refine k5 (k1 ?_);exact UF ⟨B1 rfl,B1 rfl,B1 rfl,trivial⟩ (H8 p) (by repeat (first | exact B7 | refine tail_drop rfl ?_ | refine B8 rfl ?_ | refine N9 _ rfl ?_)) (M3 (L:=[(751,_)]) ⟨rfl,trivial⟩ (by repeat (first | exact J6 | refine N2 rfl ?_ | refine t8 a ?_ | refine lR _ rfl ?_)))
 refine k2 (k2 ?_);refine A7 (A6 (G5 Z) Z (A6 (C0 Z Z) Z (B0 ?_)));refine k1 ?_;refine bY ([(5,.s (.one (.mut 751)))]++C9 [751,752] gf) ([(751,GH (Q5 f))]++M5 [751,752] ob) ?_ ?_
 ·skip;refine B5 rfl (fun k=>?_) (fun k=>?_)
  ·have hb:f.c=true:=k;rw[A4 hb]at w;rw[w];have y:q=[1]\/q=[1,2]:=by
    rw[d];split
    ·exact .inr rfl
    ·exact .inl rfl
   clear d w B;rcases y with rfl | rfl
   ·skip;refine A7 (A6 (A8 Z Z) Z (A6 (A8 Z Z) Z (A6 (C4 Z) Z (A6 (B2 Z) Z (D3 (pL 752 Z Z Z Z a Z) Z (D3 (bW Z Z Z Z (by decide) Z) Z (A6 (A9 Z Z) Z (B0 ?_))))))));refine k1 ?_;exact UF ⟨B1 rfl,trivial⟩ (H8 p) (by repeat (first | exact B7 | refine tail_drop rfl ?_ | refine B8 rfl ?_ | refine N9 _ rfl ?_)) (M3 (L:=[(751,_)]) ⟨rfl,trivial⟩ (by repeat (first | exact J6 | refine N2 rfl ?_ | refine t8 a ?_ | refine lR _ rfl ?_)))
   ·skip;refine A7 (A6 (A8 Z Z) Z (A6 (A8 Z Z) Z (A6 (C4 Z) Z (A6 (B2 Z) Z (D3 (pL 752 Z Z Z Z a Z) Z (D3 (bW Z Z Z Z (by decide) Z) Z (A6 (A9 Z Z) Z (B0 ?_))))))));refine k1 ?_;exact UF ⟨B1 rfl,trivial⟩ (H8 p) (by repeat (first | exact B7 | refine tail_drop rfl ?_ | refine B8 rfl ?_ | refine N9 _ rfl ?_)) (M3 (L:=[(751,_)]) ⟨rfl,trivial⟩ (by repeat (first | exact J6 | refine N2 rfl ?_ | refine t8 a ?_ | refine lR _ rfl ?_)))
  ·have hb:f.c=false:=k;rw[A5 (by rw[hb];decide)]at w;rw[w];refine k5 (k1 ?_);exact UF ⟨B1 rfl,trivial⟩ (H8 p) (by repeat (first | exact B7 | refine tail_drop rfl ?_ | refine B8 rfl ?_ | refine N9 _ rfl ?_)) (M3 (L:=[(751,_)]) ⟨rfl,trivial⟩ (by repeat (first | exact J6 | refine N2 rfl ?_ | refine t8 a ?_ | refine lR _ rfl ?_)))
 refine k2 ?_;refine A7 (A6 (A8 Z Z) Z (A6 (A9 Z Z) Z (B0 ?_)));refine k1 (I8 ?_);exact G9 (O9 rfl rfl) (by repeat (first | exact B7 | refine tail_drop rfl ?_ | refine B8 rfl ?_ | refine N9 _ rfl ?_)) (M3 (L:=[(751,_)]) ⟨rfl,trivial⟩ (by repeat (first | exact J6 | refine N2 rfl ?_ | refine t8 a ?_ | refine lR _ rfl ?_))) ⟨rfl,rfl⟩
theorem GI(c:Cmd)(Q:c.Text.length<=1048576):FnOk Tryz.prog 31 [dN c] (fun rs=>rs=[H1 (x4 c).1,E6 (x4 c).2]):=by
 refine FnOk.intro Tryz.func31 (by decide) Z Z Z Z ?_;refine k2 ?_;refine A7 (D3 (dE 1 Z Z Z) Z (A6 (A9 Z Z) Z (A6 (A9 Z Z) Z (B0 ?_))));refine k1 (k2 (k2 ?_));refine A7 (C8 (tI) Z Z Z ?_);rintro _ rfl;refine A6 (F7 Z (.pure _ _ _ _)) Z (A6 (A8 Z Z) Z (B0 ?_));refine k1 (k3 ?_);refine D9 (X:=Nat) (fun i=>([(1,.s (.one (.ref 1 0))),(10,E2 CForm 6 qU formsL),(11,D1 10),(12,D1 i)],[(1,.box (kV c))])) (fun i=>i<=10/\x4 c=qV c (formsL.drop i)) (fun i=>10-i) 0 ⟨Nat.zero_le _,rfl⟩ (Sees.of ⟨B1 rfl,B1 rfl,B1 rfl,B1 rfl,trivial⟩ ⟨rfl,trivial⟩) ?_;rintro i ⟨hi,A⟩;dsimp only at hi A ⊢;refine k2 ?_;refine A7 (A6 (F1 Z Z) Z (B0 ?_));refine k1 (k2 ?_);refine B5 rfl (fun d=>?_) (fun d=>?_);rotate_left
 ·have S:i=10:=by have:=A1 d;omega
  subst S;refine k6 (k2 ?_);refine A7 (A6 (A9 Z Z) Z (A6 (A9 Z Z) Z (B0 ?_)));refine k1 (I8 ?_);exact B9 (rs:=[H1 [],E6 2]) (V2 rfl rfl rfl rfl rfl) (by rw[A];rfl)
 have D:i<formsL.length:=by have h:=A0 d;show i<10;omega
 obtain⟨f,H⟩:∃f,f=formsL[i]:=⟨_,rfl⟩
 have hv:formsL[i]?=some f:=by rw[H];exact VA D
 have hw:=HQ (VZ hv);rw[VN D,<-H,qV]at A;refine k5 (k1 (k2 (k3 (k2 ?_))));refine A7 (A6 (B6 Z (.pure _ _ _ _) Z (by omega) hv) Z (A6 (H7 Z Z) Z (D3 (L4 5 Z) Z (H3 (D5 TySz.out Z Z Z Z Z Z) (B0 ?_)))));have y:((if decide (f.kind≠c.Kind)=true then true else !(f.dense == c.Dense))=true)↔(f.kind≠c.Kind\/f.dense≠c.Dense):=by cases f.dense<;>cases c.Dense<;>simp
 refine k1 (k2 (k2 ?_));refine A7 (A6 (B2 Z) Z (A6 (B4 Z Z Z) Z (A6 (B2 Z) Z (A6 (B4 Z Z Z) Z (A6 (P5 Z Z) Z (A6 (A8 Z Z) Z (B3 Z Z Z Z (fun g=>by rw[g];exact B2 Z) ?_)))))));refine B3 Z Z Z Z (fun g=>by rw[g];exact B4 Z Z Z) ?_;refine B3 Z Z Z Z (fun g=>by rw[g];exact B2 Z) ?_;refine B3 Z Z Z Z (fun g=>by rw[g];exact B4 Z Z Z) ?_;refine B3 Z Z Z Z (fun g=>by rw[g];exact MF Z Z TyBool.out) ?_;refine A6 (C3 Z (fun h=>by first | rfl | (rw[h];rfl)) (fun h=>by first | rfl | (rw[h];rfl))) Z ?_;refine B0 ?_;refine k1 ?_;refine B5 rfl (fun d=>?_) (fun d=>?_)
 ·have E:f.kind≠c.Kind\/f.dense≠c.Dense:=y.1 d;rw[A4 E]at A;refine k6 (k7 (k8 Z (k1 ?_)));refine A7 (A6 (D8 Z Z (by omega)) Z (A6 (A8 Z Z) Z (B0 ?_)));refine k1 ?_;exact⟨i+1,⟨D,A⟩,by have:formsL.length=10:=rfl;omega,Sees.of ⟨B1 rfl,B1 rfl,B1 rfl,B1 rfl,trivial⟩ ⟨rfl,trivial⟩⟩
 have E:¬(f.kind≠c.Kind\/f.dense≠c.Dense):=fun h=>by rw[y.2 h]at d;cases d
 rw[A5 E]at A;refine sL [(1,.s (.one (.ref 1 0))),(5,.s (.one (.ref 5 0))),(10,E2 CForm 6 qU formsL),(11,D1 10),(12,D1 i)] [(1,.box (kV c)),(5,.box (KU f))] (Sees.of ⟨B1 rfl,B1 rfl,B1 rfl,B1 rfl,B1 rfl,trivial⟩ ⟨rfl,rfl,trivial⟩) ?_;refine k5 (k1 (k2 ?_));refine A7 (A6 (H0 Z Z Z) Z (D3 (L4 6 Z) Z (H3 (D5 TySz.out Z Z Z Z Z Z) (B0 ?_))));refine k1 (k2 ?_);refine A7 (A6 (B2 Z) Z (A6 (B4 Z Z Z) Z (A6 (A9 Z Z) Z (B0 ?_))));refine k1 (k2 (k2 ?_));refine A7 (A6 (H0 Z Z Z) Z (W7 (kE f Z Z) Z Z Z ?_));rintro _ _ ⟨rfl,rfl⟩;refine A6 (xX Z Z) Z (A6 (A8 Z Z) Z (B0 ?_));refine k1 (k3 ?_);obtain⟨L,O⟩:∃L,L=Q5 f:=⟨_,rfl⟩
 have P:=zQ f;rw[<-O]at P ⊢;refine D9 (X:=Nat×Cmd×Str) (fun x=>([(5,.s (.one (.ref 5 0))),(6,.s (.one (.ref 6 0))),(7,P4 x.2.2),(32,.s (.one (.mut 751))),(33,D1 L.length),(34,D1 x.1)],[(5,.box (KU f)),(6,.box (kV x.2.1)),(751,GH L)])) (fun x=>x.1<=L.length/\x.2.2.length<=8+11*x.1/\x.2.1.Text=c.Text/\s7 L c f.word=s7 (L.drop x.1) x.2.1 x.2.2) (fun x=>L.length-x.1) (0,c,f.word) ⟨Nat.zero_le _,by dsimp only;omega,rfl,rfl⟩ (Sees.of ⟨B1 rfl,B1 rfl,B1 rfl,B1 rfl,B1 rfl,B1 rfl,trivial⟩ ⟨rfl,rfl,rfl,trivial⟩) ?_;rintro⟨j,k,s⟩ ⟨hj,hs,v,z⟩;dsimp only at hj hs v z ⊢;refine k2 ?_;refine A7 (A6 (F1 Z Z) Z (B0 ?_));refine k1 (k2 ?_);refine B5 rfl (fun d=>?_) (fun d=>?_)
 ·have C:j<L.length:=by have:=A0 d;omega
  obtain⟨o,Y⟩:∃o,o=L[j]:=⟨_,rfl⟩
  have M:L[j]?=some o:=by rw[Y];exact VA C
  have F:=FD (f:=f) (o:=o) (by rw[<-O];exact VZ M);have B:=KX (c:=k) F;have V:(JX L)[((j:Nat):Int).toNat*1+0]?=some (.ref 6 o):=by rw[VC,Nat.mul_one,Nat.add_zero,WK,M];rfl
  have I:Nat.ble (o+1) 6=true:=by rcases F with rfl | rfl | rfl<;>rfl
  rw[VN C,<-Y,s7]at z;refine k5 (k1 (k2 (k3 (k2 ?_))));refine A7 (A6 (eF Z Z Z (by omega) (by omega)) Z (A6 (sW Z Z V) Z (A6 (A9 Z Z) Z (B0 ?_))));refine k1 (k2 (k2 ?_));refine A7 (A6 (A8 Z Z) Z (A6 (C4 Z) Z (A6 (B4 Z Z (B)) Z (A6 (F1 Z Z) Z (A6 (A8 Z Z) Z (B3 Z Z Z Z (fun g=>by rw[g];exact A8 Z Z) ?_))))));refine B3 Z Z Z Z (fun g=>by rw[g];exact C4 Z) ?_;refine B3 Z Z Z Z (fun g=>by rw[g];exact B4 Z Z (B)) ?_;refine B3 Z Z Z Z (fun g=>by rw[g];exact N5 Z Z) ?_;refine A6 (C3 Z (fun h=>by first | rfl | (rw[h];rfl)) (fun h=>by first | rfl | (rw[h];rfl))) Z ?_;refine B0 ?_;refine k1 ?_;refine B5 rfl (fun d=>?_) (fun d=>?_)
  ·have G:k.get o<0\/2147483647<k.get o:=A0 (or_pick.symm.trans d);rw[A4 G]at z;refine k2 ?_;refine A7 (A6 (A9 Z Z) Z (A6 (A9 Z Z) Z (B0 ?_)));refine k1 (I8 (M6 (X4 (M6 (M6 (X4 (M6 (X4 (M6 (M6 (X4 (M6 ?_))))))))))));exact B9 (rs:=[H1 [],E6 2]) (V2 rfl rfl rfl rfl rfl) (by rw[A];unfold fQ;rw[<-O,z])
  have U:¬(k.get o<0\/2147483647<k.get o):=A1 (or_pick.symm.trans d);rw[A5 U]at z;have ab:=bK (k.get o);refine k5 (k1 (k2 ?_));refine A7 (A6 (A8 Z Z) Z (A6 (A8 Z Z) Z (A6 (C4 Z) Z (A6 (B4 Z Z (B)) Z (C8 (cG (k.get o)) Z Z Z ?_)))));rintro _ rfl;refine A6 (K6 Z Z (by (simp;omega))) Z (A6 (K6 Z Z (by (simp;omega))) Z (A6 (A9 Z Z) Z (B0 ?_)));refine k1 ?_;refine A7 (A6 (A8 Z Z) Z (A6 (C4 Z) Z (H3 (D5 TySz.out Z Z Z Z Z (I)) (B0 ?_))));refine k4 (k1 ?_);refine A7 (A6 (D8 Z Z (by omega)) Z (A6 (A8 Z Z) Z (B0 ?_)));refine k1 ?_;refine⟨(j+1,k.put o 0,s++([32]++c9 (k.get o))),⟨C,?_,?_,z⟩,by dsimp only;omega,(by dsimp only;rw[<-zR 0 F];exact (Sees.of ⟨B1 rfl,B1 rfl,B1 rfl,B1 rfl,B1 rfl,B1 rfl,trivial⟩ ⟨rfl,rfl,rfl,trivial⟩))⟩
  ·dsimp only;simp only[VF,VD,VI];omega
  ·dsimp only;rw[wI];exact v
 have T:j=L.length:=by have:=A1 d;omega
 rw[T,List.drop_length,s7]at z;obtain⟨w,l⟩:∃w:Cmd,w=if f.text=true then { k with Text:=[] } else k:=⟨_,rfl⟩
 obtain⟨s2,q⟩:∃s2:Str,s2=if f.text=true then s++([32]++X8 k.Text) else s:=⟨_,rfl⟩
 have K:x4 c=eV f w s2:=by
  rw[A];unfold fQ;rw[<-O,z,l,q];dsimp only;split<;>rfl
 have ac:=zI k.Text;have W:k.Text.length<=1048576:=by rw[v];exact Q
 refine k6 (k2 (k2 ?_));refine A7 (A6 (B2 Z) Z (A6 (B4 Z Z Z) Z (B0 ?_)));refine k1 ?_;refine bY [(5,.s (.one (.ref 5 0))),(6,.s (.one (.ref 6 0))),(7,P4 s2)] [(5,.box (KU f)),(6,.box (kV w))] ?_ ?_
 ·skip;refine B5 rfl (fun d=>?_) (fun d=>?_)
  ·have hb:f.text=true:=d;rw[A4 hb]at l q;subst l q;refine k2 ?_;refine A7 (A6 (A8 Z Z) Z (A6 (B2 Z) Z (A6 (B4 Z Z Z) Z (C8 (tB k.Text (by rw[v];omega)) Z Z Z ?_))));rintro _ rfl;refine A6 (K6 Z Z (by (simp;omega))) Z (A6 (K6 Z Z (by (simp;omega))) Z (A6 (A9 Z Z) Z (B0 ?_)));refine k1 ?_;refine A7 (A6 (B2 Z) Z (H3 (D5 TySz.out Z Z Z Z Z Z) (B0 ?_)));refine k1 ?_;exact Sees.of ⟨B1 rfl,B1 rfl,B1 rfl,trivial⟩ ⟨rfl,rfl,trivial⟩
  ·have hb:f.text=false:=d;rw[A5 (by rw[hb];decide)]at l q;subst l q;refine k5 (k1 ?_);exact Sees.of ⟨B1 rfl,B1 rfl,B1 rfl,trivial⟩ ⟨rfl,rfl,trivial⟩
 refine k2 (k2 ?_);refine A7 (A6 (H0 Z Z Z) Z (A6 (B2 Z) Z (A6 (B4 Z Z Z) Z (A6 (B2 Z) Z (A6 (B4 Z Z Z) Z (A6 (I9 Z) Z (A6 (IV (KT w) (KT ⟨f.kind,0,0,0,f.dense,[]⟩) Z Z Z Z (PU w ⟨f.kind,0,0,0,f.dense,[]⟩)) Z (B0 ?_))))))));refine k1 ?_;refine B5 rfl (fun d=>?_) (fun d=>?_)
 ·have J:¬w=⟨f.kind,0,0,0,f.dense,[]⟩:=by simpa using d
  refine k2 ?_;refine A7 (A6 (A9 Z Z) Z (A6 (A9 Z Z) Z (B0 ?_)));refine k1 (I8 (M6 (X4 (M6 (M6 (X4 (M6 ?_)))))));exact B9 (rs:=[H1 [],E6 2]) (V2 rfl rfl rfl rfl rfl) (by rw[K];unfold eV;rw[A5 J])
 ·have R:w=⟨f.kind,0,0,0,f.dense,[]⟩:=by simpa using d
  refine k5 (k1 (k2 ?_));refine A7 (A6 (A8 Z Z) Z (A6 (A9 Z Z) Z (A6 (A9 Z Z) Z (B0 ?_))));refine k1 (I8 (X4 (M6 (M6 (X4 (M6 ?_))))));exact B9 (rs:=[H1 s2,E6 0]) (V2 rfl rfl rfl rfl rfl) (by rw[K];unfold eV;rw[A4 R])
theorem gD{s:Str}{i:Nat}(h:i<s.length):s[i]?=some (s.getD i 0):=by simp[h]
def kF(s:Str)(i:Nat):Bool:=decide ((i<s.length/\48<=(s.getD i 0).toNat)/\(s.getD i 0).toNat<=57)
theorem CD(s:Str)(i:Nat):kF s i=match s[i]? with | some c=>iZ c | none=>false:=by
 unfold kF iZ;by_cases h:i<s.length
 ·rw[gD h];simp[h]
 ·rw[VS (by omega)];simp[h]
theorem digs_le(s:Str)(i:Nat):(M8 (s.drop i)).length<=s.length-i:=by
 unfold M8;have:=(List.takeWhile_sublist iZ (l:=s.drop i)).length_le;rw[WA]at this;exact this
theorem r8{p:UInt8->Bool}:∀(s:Str) (k:Nat),k<=(s.takeWhile p).length->(match s[k]? with | some c=>p c | none=>false)=decide (k<(s.takeWhile p).length)
 | [],k,h=>by simp at h ⊢
 | c::r,0,h=>by by_cases a:p c=true<;>simp[List.takeWhile_cons,a]
 | c::r,k+1,h=>by
  by_cases a:p c=true
  ·rw[List.takeWhile_cons,A4 a,VD]at h ⊢;have:=r8 (p:=p) r k (by omega);rw[List.getElem?_cons_succ,this];simp
  ·rw[List.takeWhile_cons,A5 a]at h;simp at h
theorem gW{p:UInt8->Bool}:∀(s:Str) (k:Nat),k<(s.takeWhile p).length->s[k]?=(s.takeWhile p)[k]?
 | [],k,h=>by simp at h
 | c::r,k,h=>by
  by_cases a:p c=true
  ·rw[List.takeWhile_cons,A4 a]at h ⊢;cases k with
   | zero=>rfl
   | succ k=>rw[List.getElem?_cons_succ,List.getElem?_cons_succ];exact gW (p:=p) r k (by simpa using h)
  ·rw[List.takeWhile_cons,A5 a]at h;simp at h
theorem tJ(s:Str)(i k:Nat)(h:k<=(M8 (s.drop i)).length):kF s (i+k)=decide (k<(M8 (s.drop i)).length):=by
 rw[CD,<-WD];exact r8 (s.drop i) k h
theorem GJ{s:Str}{i k:Nat}(h:k<(M8 (s.drop i)).length):s[i+k]?=some ((M8 (s.drop i)).getD k 0)/\48<=((M8 (s.drop i)).getD k 0).toNat/\((M8 (s.drop i)).getD k 0).toNat<=57 /\
  dM ((M8 (s.drop i)).take (k+1))=10*dM ((M8 (s.drop i)).take k)+(((M8 (s.drop i)).getD k 0).toNat-48):=by
 have d:s[i+k]?=(M8 (s.drop i))[k]?:=by rw[<-WD];exact gW _ _ h
 have c:=gD h;have b:iZ ((M8 (s.drop i)).getD k 0)=true:=by
  have m:(M8 (s.drop i)).getD k 0∈(s.drop i).takeWhile iZ:=VZ c;exact List.all_eq_true.1 List.all_takeWhile _ m
 unfold iZ at b;have b:=A0 b;refine⟨by rw[d,c],b.1,b.2,?_⟩;obtain⟨j,f⟩:=List.getElem?_eq_some_iff.1 c;rw[WM j,HP,f]
theorem JY(n:Nat)(h:48<=n)(b:n<=57):IntKind.i64.wrap (IntKind.u8.wrap ((n:Int)-48))=((n-48:Nat):Int):=by
 have:∀k:Fin 10,IntKind.i64.wrap (IntKind.u8.wrap (((k.1+48:Nat):Int)-48))=((k.1:Nat):Int):=by decide
 have a:=this ⟨n-48,by omega⟩;dsimp only at a;rw[show n-48+48=n by omega]at a;exact a
def yZ(s:Str)(i:Nat):List PV:=match kU (s.drop i) with
 | none=>[E6 0,E6 0,H5 false]
 | some (n,k)=>[E6 n,E6 ((i+k:Nat):Int),H5 true]
theorem tK(s:Str)(i:Nat):FnOk Tryz.prog 42 [H1 s,E6 i] (fun rs=>rs=[H5 (kF s i)]):=by
 refine FnOk.intro Tryz.func42 (by decide) Z Z Z Z ?_;refine k2 ?_;refine A7 (A6 (A9 Z Z) Z (B0 ?_));refine k1 (k2 ?_);refine A7 (A6 (A8 Z Z) Z (A6 (A8 Z Z) Z (A6 (L1 Z) Z (A6 (F1 Z Z) Z (A6 (A8 Z Z) Z (B3 Z Z Z Z (fun a=>by rw[a];exact A8 Z Z) ?_))))));refine B3 Z Z Z Z (fun a=>by rw[a];exact A8 Z Z) ?_;refine B3 Z Z Z Z (fun a=>by have b:=a;(try simp at b);rw[a];exact P2 Z Z (by omega) (gD (by omega))) ?_;refine B3 Z Z Z Z (fun a=>by rw[a];exact jL Z Z) ?_;refine A6 (C3 Z (fun h=>by first | rfl | (rw[h];rfl)) (fun h=>by first | rfl | (rw[h];rfl))) Z ?_;refine A6 (A8 Z Z) Z (B3 Z Z Z Z (fun a=>by rw[a];exact A8 Z Z) ?_);refine B3 Z Z Z Z (fun a=>by rw[a];exact A8 Z Z) ?_;refine B3 Z Z Z Z (fun a=>by have b:=a;(try simp at b);rw[a];exact P2 Z Z (by omega) (gD (by omega))) ?_;refine B3 Z Z Z Z (fun a=>by rw[a];exact DZ Z Z) ?_;refine A6 (C3 Z (fun h=>by first | rfl | (rw[h];rfl)) (fun h=>by first | rfl | (rw[h];rfl))) Z ?_;refine A6 (A9 Z Z) Z (B0 ?_);refine k1 (I8 ?_);refine B9 (I5 Z Z Z) ?_;simp only[and_pick];unfold kF
 congr 4
 congr 1
 simp;omega
theorem CE(s:Str)(i:Nat)(Y:i<=s.length)(hs:s.length<=1073741824):FnOk Tryz.prog 15 [H1 s,E6 i] (fun rs=>rs=yZ s i):=by
 obtain⟨f,j⟩:∃f,f=M8 (s.drop i):=⟨_,rfl⟩
 have M:=digs_le s i;have I:=tJ s i 0 (Nat.zero_le _);rw[Nat.add_zero]at I;rw[<-j]at M I;refine FnOk.intro Tryz.func15 (by decide) Z Z Z Z ?_;refine k2 ?_;refine A7 (A6 (A9 Z Z) Z (A6 (A9 Z Z) Z (A6 (A9 Z Z) Z (B0 ?_))));refine k1 (k2 (k2 ?_));refine A7 (A6 (A8 Z Z) Z (A6 (F1 Z Z) Z (A6 (A8 Z Z) Z (B3 Z Z Z Z (fun b=>by rw[b];exact A8 Z Z) ?_))));refine B3 Z Z Z Z (fun b=>by rw[b];exact A8 Z Z) ?_;refine B3 Z Z Z Z (fun b=>by have C:=b;(try simp at C);rw[b];exact L3 (tK s i) Z Z) ?_;refine B3 Z Z Z Z (fun b=>by rw[b];exact Y7 Z) ?_;refine A6 (C3 Z (fun h=>by first | rfl | (rw[h];rfl)) (fun h=>by first | rfl | (rw[h];rfl))) Z ?_;refine B0 ?_;rw[I];refine k1 ?_;by_cases P:f.length=0
 ·refine B5 rfl (fun w=>?_) (fun w=>?_);rotate_left
  ·exfalso;revert w;simp[P]
  refine k2 ?_;refine A7 (A6 (A9 Z Z) Z (A6 (A9 Z Z) Z (A6 (A9 Z Z) Z (B0 ?_))));refine k1 (I8 (M6 ?_));refine B9 (rs:=[E6 0,E6 0,H5 false]) (OS Z Z Z Z Z Z Z) ?_;unfold yZ kU;rw[<-j,A4 (.inl (List.length_eq_zero_iff.1 P))]
 refine B5 rfl (fun w=>?_) (fun w=>?_)
 ·exfalso;revert w;simp[show 0<f.length by omega]
 refine k5 (k1 (k2 ?_));refine A7 (A6 (A8 Z Z) Z (A6 (A9 Z Z) Z (A6 (A9 Z Z) Z (B0 ?_))));refine k1 (k2 (k3 ?_));refine D9 (X:=Nat) (fun k=>([(0,P4 s),(1,D1 i),(7,D1 ((min (dM (f.take k)) 2147483648:Nat):Int)),(8,D1 ((i+k:Nat):Int))],[])) (fun k=>k<=f.length) (fun k=>f.length-k) 0 (Nat.zero_le _) (Sees.of ⟨B1 rfl,B1 rfl,B1 rfl,B1 rfl,trivial⟩ trivial) ?_;intro k R;dsimp only at R ⊢;have y:=tJ s i k (by rw[<-j];exact R);rw[<-j]at y;refine k2 (k2 ?_);refine A7 (A6 (A8 Z Z) Z (A6 (A8 Z Z) Z (C8 (tK s (i+k)) Z Z Z ?_)));rintro _ rfl;refine B0 ?_;rw[y];refine k1 ?_;refine B5 rfl (fun w=>?_) (fun w=>?_)
 ·have A:k<f.length:=A0 w;obtain⟨g1,F,G,H⟩:=GJ (s:=s) (i:=i) (k:=k) (by rw[<-j];exact A);rw[<-j]at g1 F G H;obtain⟨c,U⟩:∃c,c=f.getD k 0:=⟨_,rfl⟩
  rw[<-U]at g1 F G H;obtain⟨v,O⟩:∃v,v=min (dM (f.take k)) 2147483648:=⟨_,rfl⟩
  have V:v<=2147483648:=by omega
  have B:min (dM (f.take (k+1))) 2147483648=min (10*v+(c.toNat-48)) 2147483648:=by rw[H];omega
  rw[<-O];have z:=JY c.toNat F G;refine k5 (k1 (k2 (k3 ?_)));refine A7 (A6 (A8 Z Z) Z (A6 (sD Z Z (by omega)) Z (A6 (A8 Z Z) Z (A6 (A8 Z Z) Z (A6 (P2 Z Z (by omega) g1) Z (A6 (DY Z Z) Z (A6 (Z0 Z) Z (A6 (D8 Z Z (by (rw[z];omega))) Z ?_))))))));refine A6 (OA Z Z) Z (A6 (A9 Z Z) Z (B0 ?_));refine k4 (k1 ?_);refine A7 (A6 (A8 Z Z) Z (A6 (D8 Z Z (by omega)) Z (A6 (A9 Z Z) Z (B0 ?_))));refine k1 ?_;refine⟨k+1,A,by omega,?_⟩;rw[B];refine Sees.of ⟨⟨_,rfl,.same _⟩,⟨_,rfl,.same _⟩,⟨_,rfl,.eq ?_⟩,⟨_,rfl,.eq ?_⟩,trivial⟩ trivial
  ·rw[z]
   congr 6
   split<;>omega
  ·congr 6
 ·have L:k=f.length:=by have:¬k<f.length:=A1 w;omega
  subst L;rw[VJ];have D:i<s.length:=by omega
  refine k6 (k2 (k2 ?_));refine A7 (A6 (A8 Z Z) Z (A6 (N5 Z Z) Z (A6 (A8 Z Z) Z (B3 Z Z Z Z (fun b=>by rw[b];exact A8 Z Z) ?_))));refine B3 Z Z Z Z (fun b=>by rw[b];exact A8 Z Z) ?_;refine B3 Z Z Z Z (fun b=>by have C:=b;(try simp at C);rw[b];exact P2 Z Z (by omega) (gD D)) ?_;refine B3 Z Z Z Z (fun b=>by rw[b];exact J1 Z Z) ?_;refine B3 Z Z Z Z (fun b=>by rw[b];exact A8 Z Z) ?_;refine Z9 Z Z Z (.gd (.val _)) Z (fun b=>by obtain⟨p,u⟩:=Y2 b;(try rw[p]);(try rw[u]);exact A8 Z Z) ?_;refine Z9 Z Z Z (.gd (.val _)) Z (fun b=>by obtain⟨p,u⟩:=Y2 b;(try rw[p]);(try rw[u]);exact A8 Z Z) ?_;refine Z9 Z Z Z (.gd (.val _)) Z (fun b=>by have C:=b;(try simp at C);obtain⟨p,u⟩:=Y2 b;(try rw[p]);(try rw[u]);exact D8 Z Z (by omega)) ?_;refine Z9 Z Z Z (.gd (.val _)) Z (fun b=>by obtain⟨p,u⟩:=Y2 b;(try rw[p]);(try rw[u]);exact N5 Z Z) ?_;refine B3 Z Z Z Z (fun b=>by rw[b];exact C3 Z (fun h=>by first | rfl | (rw[h];rfl)) (fun h=>by first | rfl | (rw[h];rfl))) ?_;refine A6 (C3 Z (fun h=>by first | rfl | (rw[h];rfl)) (fun h=>by first | rfl | (rw[h];rfl))) Z ?_;refine B0 ?_;refine k1 ?_;have K:(s.drop i).head?=some (s.getD i 0):=by rw[List.head?_drop,gD D]
  simp only[and_pick,or_pick];have x:(M8 (s.drop i)=[]\/((s.drop i).head?=some 48/\1<(M8 (s.drop i)).length)\/2147483647<dM (M8 (s.drop i)))↔(2147483647<((min (dM f) 2147483648:Nat):Int)\/(((s.getD i 0).toNat:Int)=48/\(i:Int)+1<((i+f.length:Nat):Int))):=by
   rw[<-j,K];have S:f≠[]:=fun e=>P (by rw[e];rfl);have T:(some (s.getD i 0)=some 48)↔((s.getD i 0).toNat:Int)=48:=by
    rw[Option.some.injEq,<-UInt8.toNat_inj];have:(48:UInt8).toNat=48:=rfl;omega
   simp only[S,false_or,T];omega
  refine B5 rfl (fun w=>?_) (fun w=>?_)
  ·have E:=A0 w;refine k2 ?_;refine A7 (A6 (A9 Z Z) Z (A6 (A9 Z Z) Z (A6 (A9 Z Z) Z (B0 ?_))));refine k1 (I8 (M6 ?_));refine B9 (rs:=[E6 0,E6 0,H5 false]) (OS Z Z Z Z Z Z Z) ?_;unfold yZ kU;rw[A4 (x.2 (by first | exact E | simpa using E))]
  ·have E:=A1 w;have J:¬(M8 (s.drop i)=[]\/((s.drop i).head?=some 48/\1<(M8 (s.drop i)).length)\/2147483647<dM (M8 (s.drop i))):=fun Q=>E (by first | exact x.1 Q | simpa using x.1 Q);refine k5 (k1 (k2 ?_));refine A7 (A6 (A8 Z Z) Z (A6 (A8 Z Z) Z (A6 (A9 Z Z) Z (A6 (A9 Z Z) Z (A6 (A9 Z Z) Z (B0 ?_))))));refine k1 (I8 ?_);refine B9 (rs:=[E6 ((min (dM f) 2147483648:Nat):Int),E6 ((i+f.length:Nat):Int),H5 true]) (OS Z Z Z Z Z Z Z) ?_;unfold yZ kU;rw[A5 J,<-j];have W:dM f<=2147483647:=by
    rw[<-j]at J;by_cases O:dM f<=2147483647
    ·exact O
    ·exact absurd (.inr (.inr (by omega))) J
   rw[show min (dM f) 2147483648=dM f by omega]
theorem GK{s:Str}{i n k:Nat}(h:kU (s.drop i)=some (n,k)):yZ s i=[E6 n,E6 ((i+k:Nat):Int),H5 true]:=by unfold yZ;rw[h]
theorem GL{s:Str}{i:Nat}(h:kU (s.drop i)=none):yZ s i=[E6 0,E6 0,H5 false]:=by unfold yZ;rw[h]
abbrev zA(s:Str)(i:Nat):Ob:=.box [.p (.v (.string ⟨s.toArray⟩)),.p (.v (.int .i64 (i:Int)))]
abbrev UD(b:Bool):S1:=.one (.p (.v (.bool b)))
def OH(c:UInt8):Prop:=48<=c.toNat/\c.toNat<=55
def zB(s:Str)(i q:Nat):Prop:=i+q<s.length/\OH (s.getD (i+q) 0)
instance (s:Str) (i q:Nat):Decidable (zB s i q):=by unfold zB OH;exact inferInstance
theorem PG{b:Nat}{x y:Ob}{ob:Obs}:∀k o,C5 ((b,x)::ob) k=some o->C5 ((b,x)::(b,y)::ob) k=some o:=by
 intro k o a;by_cases c:b=k
 ·subst c;rw[E8]at a ⊢;exact a
 ·rw[C7 c]at a ⊢;rw[C7 c];exact a
theorem vN{p:UInt8->Bool}(s:Str)(i:Nat):((s.drop i).takeWhile p).length<=s.length-i:=by
 have:=(List.takeWhile_sublist p (l:=s.drop i)).length_le;rw[WA]at this;exact this
theorem eL{p:UInt8->Bool}:∀(s:Str),s.take (s.takeWhile p).length=s.takeWhile p
 | []=>rfl
 | c::r=>by
  by_cases a:p c=true
  ·rw[List.takeWhile_cons,A4 a,VD,List.take_succ_cons,eL r]
  ·rw[List.takeWhile_cons,A5 a];rfl
theorem GM{gf:Fr}{ob:Obs}(s:Str)(i:Nat)(w:Str)(J:i<s.length)(O:s.length<=16777216)(m:(s.drop i).takeWhile O7=w)(v:w≠[])(F:C5 ob 705=some (zA s i)) :
  AL.Met Tryz.prog 40 [.one (.ref 705 0)] gf ob [] (fun rs ob'=>rs=[(H1 w).s1,UD true]/\ob'=(705,zA s (i+w.length))::ob):=by
 have K:=vN (p:=O7) s i;rw[m]at K;have B:w.all O7=true:=by rw[<-m];exact List.all_takeWhile
 have q:¬(s.getD i 0).toNat=34:=by
  intro H;have D:=r8 (p:=O7) (s.drop i) 0 (Nat.zero_le _);rw[m,WD,Nat.add_zero,gD J]at D;have G:O7 (s.getD i 0)=true:=by
   have A:O7 (s.getD i 0)=decide (0<w.length):=D;rw[A];exact A2 (List.length_pos_iff.2 v)
  have M:=A0 G;omega
 refine AL.Met.introH Tryz.func40 (by decide) rfl rfl rfl (fun y=>?_);refine I7 (UF (l:=[(0,.s (.one (.ref 705 0)))]) (ob':=(705,zA s i)::ob) ⟨B1 rfl,trivial⟩ y (by repeat (first | exact B7 | refine B8 rfl ?_)) (M3 (L:=[(705,_)]) ⟨F,trivial⟩ J6)) ?_;refine k2 ?_;refine A7 (A6 (A9 Z Z) Z (A6 (A9 Z Z) Z (B0 ?_)));refine k1 (k2 ?_);refine A7 (A6 (A8 Z Z) Z (A6 (C4 Z) Z (A6 (B2 Z) Z (A6 (B4 Z Z Z) Z (A6 (A9 Z Z) Z (B0 ?_))))));refine k1 (k2 ?_);refine A7 (A6 (A9 Z Z) Z (B0 ?_));refine k1 (k2 (k2 ?_));refine A7 (A6 (A8 Z Z) Z (A6 (A8 Z Z) Z (A6 (C4 Z) Z (A6 (B2 Z) Z (A6 (B4 Z Z Z) Z (A6 (L1 Z) Z (A6 (F1 Z Z) Z (A6 (A8 Z Z) Z (B3 Z Z Z Z (fun b=>by rw[b];exact A8 Z Z) ?_)))))))));refine B3 Z Z Z Z (fun b=>by rw[b];exact C4 Z) ?_;refine B3 Z Z Z Z (fun b=>by rw[b];exact B2 Z) ?_;refine B3 Z Z Z Z (fun b=>by rw[b];exact B4 Z Z Z) ?_;refine B3 Z Z Z Z (fun b=>by rw[b];exact A8 Z Z) ?_;refine B3 Z Z Z Z (fun b=>by have q:=b;(try simp at q);rw[b];exact P2 Z Z (by omega) (gD (by omega))) ?_;refine B3 Z Z Z Z (fun b=>by rw[b];exact J1 Z Z) ?_;refine A6 (C3 Z (fun h=>by first | rfl | (rw[h];rfl)) (fun h=>by first | rfl | (rw[h];rfl))) Z ?_;refine B0 ?_;simp only[and_pick,VC];refine k1 ?_;refine B5 rfl (fun u=>?_) (fun u=>?_)
 ·exfalso;have:=A0 u;omega
 refine k2 (k3 ?_);refine D9 (X:=Nat) (fun k=>([(0,.s (.one (.ref 705 0))),(4,D1 i)]++gf,(705,zA s (i+k))::ob)) (fun k=>k<=w.length) (fun k=>w.length-k) 0 (Nat.zero_le _) ?_ ?_
 ·exact UF ⟨B1 rfl,B1 rfl,trivial⟩ y (by repeat (first | exact B7 | refine B8 rfl ?_)) (fun _ _ h=>h)
 intro k C;dsimp only at C ⊢;have d:=r8 (p:=O7) (s.drop i) k (by rw[m];exact C);rw[m,WD]at d;obtain⟨c,I⟩:∃c,c=s.getD (i+k) 0:=⟨_,rfl⟩
 have E:i+k<s.length->s[i+k]?=some c:=fun h=>by rw[I];exact gD h
 have j:(if decide (((i+k:Nat):Int)<(s.length:Int))=true then O7 c else false)=decide (k<w.length):=by
  rw[<-d];by_cases g:i+k<s.length
  ·rw[E g,A4 (A2 (by omega))]
  ·rw[VS (by omega),A5 (by simp;omega)]
 refine k2 (k2 ?_);refine H2 (by kernel_rfl) (by kernel_rfl) (C2 (A8 Z Z) Z Z (C2 (C4 Z) Z Z (C2 (B2 Z) Z Z (C2 (B4 Z Z Z) Z Z (C2 (A8 Z Z) Z Z (C2 (C4 Z) Z Z (C2 (B2 Z) Z Z (C2 (B4 Z Z Z) Z Z (C2 (L1 Z) Z Z (C2 (F1 Z Z) Z Z (C2 (A8 Z Z) Z Z (F8 Z Z (fun b=>by rw[b];exact A8 Z Z) Z Z ?_))))))))))));refine F8 Z Z (fun b=>by rw[b];exact C4 Z) Z Z ?_;refine F8 Z Z (fun b=>by rw[b];exact B2 Z) Z Z ?_;refine F8 Z Z (fun b=>by rw[b];exact B4 Z Z Z) Z Z ?_;refine F8 Z Z (fun b=>by rw[b];exact A8 Z Z) Z Z ?_;refine F8 Z Z (fun b=>by rw[b];exact C4 Z) Z Z ?_;refine F8 Z Z (fun b=>by rw[b];exact B2 Z) Z Z ?_;refine F8 Z Z (fun b=>by rw[b];exact B4 Z Z Z) Z Z ?_;refine F8 Z Z (fun b=>by have q:=b;(try simp at q);rw[b];exact P2 Z Z (by omega) (E (by omega))) Z Z ?_;refine F8 Z Z (fun b=>by have q:=b;(try simp at q);rw[b];exact L3 (tA c) Z Z) Z Z ?_;refine C2 (C3 Z (fun h=>by first | rfl | (rw[h];rfl)) (fun h=>by first | rfl | (rw[h];rfl))) Z Z ?_;refine i7 ?_;rw[j];refine k1 ?_;refine B5 rfl (fun u=>?_) (fun u=>?_)
 ·have g:=A0 u;refine k5 (k1 (k3 ?_));refine A7 (A6 (A8 Z Z) Z (A6 (C4 Z) Z (A6 (B2 Z) Z (A6 (B4 Z Z Z) Z (A6 (D8 Z Z (by omega)) Z (A6 (C4 Z) Z (A6 (B2 Z) Z (H3 (D5 TySz.out Z Z Z Z Z Z) (B0 ?_)))))))));refine k4 (k1 ?_);exact⟨k+1,g,by omega,UF ⟨B1 rfl,B1 rfl,trivial⟩ y (by repeat (first | exact B7 | refine B8 rfl ?_)) PG⟩
 have z:k=w.length:=by have:=A1 u;omega
 subst z;refine k6 (k7 (k7 (k8 Z (k1 ?_))));refine H2 (by kernel_rfl) (by kernel_rfl) (C2 (A8 Z Z) Z Z (C2 (C4 Z) Z Z (C2 (B2 Z) Z Z (C2 (B4 Z Z Z) Z Z (C2 (A8 Z Z) Z Z (C2 (A8 Z Z) Z Z (C2 (C4 Z) Z Z (C2 (B2 Z) Z Z (C2 (B4 Z Z Z) Z Z (C2 (oI Z Z Z (by omega) (by omega) (by omega)) Z Z (C2 (A9 Z Z) Z Z (i7 ?_))))))))))));have x:(s.drop i).take (i+w.length-i)=w:=by
  rw[Nat.add_sub_cancel_left]
  conv=>rhs;rw[<-m]
  rw[<-m];exact eL _
 rw[VC,VC,x];refine k1 (k2 ?_);refine H2 (by kernel_rfl) (by kernel_rfl) (C2 (A8 Z Z) Z Z (C2 (A8 Z Z) Z Z (C2 (L3 (tB w (by omega)) Z Z) Z Z (C2 (A8 Z Z) Z Z (C2 (C4 Z) Z Z (C2 (B2 Z) Z Z (C2 (B4 Z Z Z) Z Z (C2 (A8 Z Z) Z Z (C2 (A8 Z Z) Z Z (C2 (C4 Z) Z Z (C2 (B2 Z) Z Z (C2 (B4 Z Z Z) Z Z (C2 (oI Z Z Z (by omega) (by omega) (by omega)) Z Z (C2 (a8 Z Z) Z Z (C2 (A9 Z Z) Z Z (C2 (A9 Z Z) Z Z (i7 ?_)))))))))))))))));rw[VC,VC,x,zT v B];refine k1 (I8 ?_);exact G9 (EC rfl rfl rfl) (by repeat (first | exact B7 | refine B8 rfl ?_ | refine E1 _ ?_)) (fun _ _ h=>h) ⟨(by rw[A2 rfl];rfl),rfl⟩
theorem CF(d:List Str)(B:d≠[])(F:∀w∈d,w≠[]/\w.all O7=true)(P:(M9 d).length<=1048576) :
  FnOk Tryz.prog 13 [H1 (M9 d)] (fun rs=>rs=[jO d,H5 true]):=by
 obtain⟨s,q⟩:∃s,s=M9 d:=⟨_,rfl⟩
 have C:s≠[]:=by
  obtain⟨w,r,rfl⟩:=List.exists_cons_of_ne_nil B;have z:=zS w r;have L:=List.length_pos_iff.2 (F w (List.mem_cons_self ..)).1;intro e;rw[<-q,e]at z;simp only[VI]at z;omega
 rw[<-q]at P ⊢;refine FnOk.intro Tryz.func13 (by decide) Z Z Z Z ?_;refine k2 ?_;refine A7 (A6 (A9 Z Z) Z (A6 (A9 Z Z) Z (B0 ?_)));refine k1 (k2 (k2 ?_));refine A7 (A6 (A8 Z Z) Z (A6 (a8 Z Z) Z (B0 ?_)));refine k1 ?_;refine B5 rfl (fun j=>?_) (fun j=>?_)
 ·exact absurd (A0 j) C
 refine k5 (k1 (k2 ?_));refine A7 (A6 (A8 Z Z) Z (A6 (I9 Z) Z (D3 (dE 705 Z Z Z) Z (A6 (A9 Z Z) Z (B0 ?_)))));refine k1 (k2 ?_);refine A7 (A6 (A8 Z Z) Z (A6 (oX Z Z) Z (A6 (A9 Z Z) Z (B0 ?_))));refine k1 (k2 ?_);refine A7 (D3 (V3 850 _ y1 Z) Z (B0 ?_));refine k1 (k3 ?_);refine D9 (X:=Nat×Nat) (fun x=>([(0,P4 s),(4,.s (.one (.ref 705 0))),(5,.s (.one (.clo 40 [(705,0)] []))),(6,.s (.one (.buf 850 Str 1 y1 (d.take x.1))))],[(705,zA s x.2),(850,.spare (d.take x.1).length 1 9)])) (fun x=>x.1<d.length/\s.drop x.2=M9 (d.drop x.1)/\x.2<s.length) (fun x=>d.length-x.1) (0,0) ⟨List.length_pos_iff.2 B,by rw[List.drop_zero,List.drop_zero];exact q,List.length_pos_iff.2 C⟩ (Sees.of ⟨B1 rfl,B1 rfl,B1 rfl,B1 rfl,trivial⟩ ⟨rfl,rfl,trivial⟩) ?_;rintro⟨k,i⟩ ⟨G,v,M⟩;dsimp only at G v M ⊢;obtain⟨w,E⟩:∃w,w=d[k]:=⟨_,rfl⟩
 have N:d[k]?=some w:=by rw[E];exact VA G
 obtain⟨J,K⟩:=F w (VZ N);rw[VN G,<-E]at v;have I:(s.drop i).takeWhile O7=w:=by rw[v];exact HR K _
 have D:d.take (k+1)=d.take k++[w]:=by rw[List.take_add_one,N];rfl
 have hkl:(d.take k).length<=1048576:=by
  have z:=List.length_take_le' k d;have L:=qY d fun w Q=>(F w Q).1;rw[<-q]at L;omega
 have m:=congrArg List.length v;rw[WA]at m;refine k3 (k2 ?_);refine A7 (A6 (A8 Z Z) Z (BH (GM s i w M (by omega) I J Z) Z Z Z Z ?_));rintro _ _ ⟨rfl,rfl⟩;refine A6 (A8 Z Z) Z (A6 (C1 Z Z) Z (A6 (C1 Z Z) Z (A6 (A9 Z Z) Z (A6 (A9 Z Z) Z (B0 ?_)))));refine k1 (k2 (k2 ?_));refine A7 (A6 (A8 Z Z) Z (A6 (Y7 Z) Z (B0 ?_)));refine k1 ?_;refine B5 rfl (fun j=>?_) (fun j=>?_)
 ·cases j
 refine k5 (k1 (k2 ?_));refine A7 (A6 (A8 Z Z) Z (A6 (A8 Z Z) Z (A6 (D2 (c:=y1) (ys:=[w]) (D6 Z Z Z Z G1) Z Z Z) Z (D3 (L2 Z Z Z (.pure _ _ _ _) (by (simp only[VD,VI];omega)) Z) Z (A6 (A9 Z Z) Z (B0 ?_))))));refine k1 (k2 (k2 ?_));refine A7 (A6 (A8 Z Z) Z (A6 (C4 Z) Z (A6 (B2 Z) Z (A6 (B4 Z Z Z) Z (A6 (A8 Z Z) Z (A6 (L1 Z) Z (A6 (J1 Z Z) Z (B0 ?_))))))));refine k1 ?_;rcases y:d.drop (k+1) with _ | ⟨x,r⟩
 ·rw[y]at v m;rw[qW]at m;refine B5 rfl (fun j=>?_) (fun j=>?_);rotate_left
  ·exact absurd (show ((i+w.length:Nat):Int)=s.length by omega) (A1 j)
  refine k2 ?_;refine A7 (A6 (A8 Z Z) Z (A6 (A9 Z Z) Z (A6 (A9 Z Z) Z (B0 ?_))));refine k1 (I8 (M6 (X4 (M6 (X4 ?_)))));refine B9 (rs:=[jO (d.take k++[w]),H5 true]) (V2 Z Z Z Z Z) ?_;have O:d=d.take (k+1):=by
   have z:=WR (k+1) d;rw[y,WL]at z;exact z.symm
  rw[<-D,<-O]
 ·rw[y,bP]at v;rw[y,bP,VF,VD]at m;have H:s[i+w.length]?=some 32:=by
   rw[<-WD,v,VO (Nat.le_refl _),WN];rfl
  refine B5 rfl (fun j=>?_) (fun j=>?_)
  ·have:=A0 j;omega
  refine k5 (k1 (k2 (k2 ?_)));refine A7 (A6 (A8 Z Z) Z (A6 (A8 Z Z) Z (A6 (C4 Z) Z (A6 (B2 Z) Z (A6 (B4 Z Z Z) Z (A6 (P2 Z Z (by omega) (by rw[VC];exact H)) Z ?_))))));refine A6 (P5 Z Z) Z (B0 ?_);refine k1 ?_;refine B5 rfl (fun j=>?_) (fun j=>?_)
  ·exact absurd rfl (A0 j)
  refine k5 (k1 ?_);refine A7 (A6 (A8 Z Z) Z (A6 (C4 Z) Z (A6 (B2 Z) Z (A6 (B4 Z Z Z) Z (A6 (D8 Z Z (by omega)) Z (A6 (C4 Z) Z (A6 (B2 Z) Z (H3 (D5 TySz.out Z Z Z Z Z Z) (B0 ?_)))))))));refine k4 (k1 ?_);have A:k+1<d.length:=by
   have:=congrArg List.length y;rw[WA,VD]at this;omega
  refine⟨(k+1,i+w.length+1),⟨A,?_,by dsimp only;have:=zS x r;have:=List.length_pos_iff.2 (F x (List.mem_of_mem_drop (by rw[y];exact List.mem_cons_self ..))).1;omega⟩,by dsimp only;omega,?_⟩
  ·dsimp only;rw[y,Nat.add_assoc,<-List.drop_drop,v];exact HU _ _ _
  ·dsimp only;rw[D];exact Sees.of ⟨B1 rfl,B1 rfl,B1 rfl,B1 rfl,trivial⟩ ⟨rfl,rfl,trivial⟩
theorem JZ(f:CForm)(c:List Str)(hw:∀w∈c,w.length<=1048576)(hl:c.length<=1048576) :
  FnOk Tryz.prog 157 [KV f,jO c] (fun rs=>rs=[dN ((x5 f c).getD jA),H5 (x5 f c).isSome]):=by
 have k:=zU f c;obtain⟨L,U⟩:∃L,L=Q5 f:=⟨_,rfl⟩
 obtain⟨W,J⟩:∃W,W=iB f c:=⟨_,rfl⟩
 obtain⟨H,B⟩:∃H,H=qX f c:=⟨_,rfl⟩
 obtain⟨R,hR⟩:∃R,R=x5 f c:=⟨_,rfl⟩
 have ac:∀w∈W,w.length<=1048576:=fun w h=>hw w (HS (by rw[<-J];exact h));have ab:=HT f c;have V:=zQ f;rw[<-U,<-J,<-B,<-hR]at k;rw[<-J]at ab;rw[<-U]at V;rw[<-hR];refine FnOk.intro Tryz.func157 (by decide) Z Z Z Z ?_;refine k2 ?_;refine A7 (D3 (dE 2 Z Z Z) Z (D3 (L4 4 Z) Z (A6 (A9 Z Z) Z (B0 ?_))));refine k1 (k2 ?_);refine A7 (A6 (B2 Z) Z (A6 (B4 Z Z Z) Z (A6 (B2 Z) Z (A6 (B4 Z Z Z) Z (A6 (I9 Z) Z (D3 (L4 6 Z) Z (H3 (D5 TySz.out Z Z Z Z Z Z) (B0 ?_))))))));refine k1 (k2 ?_);refine A7 (A6 (H0 Z Z Z) Z (W7 (kE f Z Z) Z Z Z ?_));rintro _ _ ⟨rfl,rfl⟩;refine A6 (A9 Z Z) Z (B0 ?_);rw[<-U];refine k1 (k2 (k2 ?_));refine A7 (A6 (B2 Z) Z (A6 (B4 Z Z Z) Z (B0 ?_)));refine k1 ?_;refine pI (X:=Unit) (fun _=>([(1,E2 Str 1 y1 W),(4,.s (.one (.ref 4 0))),(6,.s (.one (.ref 6 0))),(7,.s (.one (.mut 751)))],[(4,.box (kV jA)),(6,.box (kV H)),(751,GH L)])) (fun _=>¬(f.text=true/\c=[])) ?_ ?_
 ·skip;refine B5 rfl (fun d=>?_) (fun d=>?_)
  ·have hb:f.text=true:=d;refine k2 (k2 ?_);refine A7 (A6 (A8 Z Z) Z (A6 (F7 Z (.pure _ _ _ _)) Z (A6 (J1 Z Z) Z (B0 ?_))));refine k1 ?_;refine B5 rfl (fun d=>?_) (fun d=>?_)
   ·have he:c=[]:=by
     have I:=A0 d;exact List.length_eq_zero_iff.1 (by omega)
    rw[A4 ⟨hb,he⟩]at k;refine k2 ?_;refine A7 (A6 (I9 Z) Z (H3 (D5 TySz.out Z Z Z Z Z Z) (A6 (A9 Z Z) Z (B0 ?_))));refine k1 (I8 (M6 (M6 ?_)));exact B9 (rs:=[dN jA,H5 false]) (oK rfl rfl rfl rfl rfl rfl rfl) (by rw[k];rfl)
   have q:¬c=[]:=fun e=>by
    have I:=A1 d;rw[e]at I;exact I rfl
   have ag:=List.length_pos_iff.2 q;have F:c[((c.length:Int)-1).toNat]?=some (c.getLastD []):=by
    rw[show ((c.length:Int)-1).toNat=c.length-1 by omega,<-List.getLast?_eq_getElem?,List.getLastD_eq_getLast?];cases h:c.getLast? with
    | none=>exact absurd (List.getLast?_eq_none_iff.1 h) q
    | some x=>rfl
   have ae:c.take ((c.length:Int)-1).toNat=W:=by
    rw[J];unfold iB;rw[A4 hb,List.dropLast_eq_take,show ((c.length:Int)-1).toNat=c.length-1 by omega]
   have C:H=⟨f.kind,0,0,0,f.dense,c.getLastD []⟩:=by rw[B];unfold qX;rw[A4 hb]
   subst C;refine k5 (k1 (k2 ?_));refine A7 (A6 (A8 Z Z) Z (A6 (A8 Z Z) Z (A6 (F7 Z (.pure _ _ _ _)) Z (A6 (O3 Z Z (by omega)) Z (A6 (B6 Z (.pure _ _ _ _) Z (by omega) F) Z (A6 (C0 Z Z) Z (A6 (B2 Z) Z (H3 (D5 TySz.out Z Z Z Z Z Z) (B0 ?_)))))))));refine k1 ?_;refine A7 (A6 (A8 Z Z) Z (A6 (A8 Z Z) Z (A6 (F7 Z (.pure _ _ _ _)) Z (A6 (O3 Z Z (by omega)) Z (A6 (sF Z (.pure _ _ _ _) Z (by omega) (by omega)) Z (A6 (A9 Z Z) Z (B0 ?_)))))));rw[ae];refine k1 ?_;exact⟨(),(fun h=>q h.2),(Sees.of ⟨B1 rfl,B1 rfl,B1 rfl,B1 rfl,trivial⟩ ⟨rfl,rfl,rfl,trivial⟩)⟩
  ·have hb:f.text=false:=d;have C:H=⟨f.kind,0,0,0,f.dense,[]⟩:=by rw[B];unfold qX;rw[A5 (by rw[hb];decide)]
   have Y:W=c:=by rw[J];unfold iB;rw[A5 (by rw[hb];decide)]
   subst C Y;refine k5 (k1 ?_);exact⟨(),(fun h=>by rw[hb]at h;cases h.1),(Sees.of ⟨B1 rfl,B1 rfl,B1 rfl,B1 rfl,trivial⟩ ⟨rfl,rfl,rfl,trivial⟩)⟩
 rintro _ K;dsimp only;rw[A5 K]at k;refine k2 (k2 ?_);refine A7 (A6 (A8 Z Z) Z (A6 (F7 Z (.pure _ _ _ _)) Z (A6 (A8 Z Z) Z (A6 (xX Z Z) Z (A6 (P5 Z Z) Z (B0 ?_))))));refine k1 ?_;refine B5 rfl (fun d=>?_) (fun d=>?_)
 ·have q:W.length≠L.length:=fun e=>by
   have I:=A0 d;omega
  rw[A4 q]at k;refine k2 ?_;refine A7 (A6 (I9 Z) Z (H3 (D5 TySz.out Z Z Z Z Z Z) (A6 (A9 Z Z) Z (B0 ?_))));refine k1 (I8 (M6 ?_));exact B9 (rs:=[dN jA,H5 false]) (oK rfl rfl rfl rfl rfl rfl rfl) (by rw[k];rfl)
 have A:W.length=L.length:=by have I:=A1 d;omega
 rw[A5 (fun e=>e A)]at k;refine k5 (k1 (k2 (k2 ?_)));refine A7 (A6 (A8 Z Z) Z (A6 (F7 Z (.pure _ _ _ _)) Z (A6 (A8 Z Z) Z (B0 ?_))));refine k1 (k3 ?_);refine D9 (X:=Nat×Cmd) (fun x=>([(4,.s (.one (.ref 4 0))),(6,.s (.one (.ref 6 0))),(7,.s (.one (.mut 751))),(44,E2 Str 1 y1 W),(45,D1 W.length),(46,D1 x.1)],[(4,.box (kV jA)),(6,.box (kV x.2)),(751,GH L)])) (fun x=>x.1<=L.length/\R=cW (L.drop x.1) (W.drop x.1) x.2) (fun x=>L.length-x.1) (0,H) ⟨Nat.zero_le _,k⟩ (Sees.of ⟨B1 rfl,B1 rfl,B1 rfl,B1 rfl,B1 rfl,B1 rfl,trivial⟩ ⟨rfl,rfl,rfl,trivial⟩) ?_;rintro⟨j,cj⟩ ⟨hj,y⟩;dsimp only at hj y ⊢;refine k2 ?_;refine A7 (A6 (F1 Z Z) Z (B0 ?_));refine k1 (k2 ?_);refine B5 rfl (fun d=>?_) (fun d=>?_);rotate_left
 ·have ad:j=L.length:=by have:=A1 d;omega
  rw[ad,List.drop_length,<-A,List.drop_length]at y;unfold cW at y;refine k6 (k2 ?_);refine A7 (A6 (H0 Z Z Z) Z (H3 (D5 TySz.out Z Z Z Z Z Z) (A6 (A9 Z Z) Z (B0 ?_))));refine k1 (I8 ?_);exact B9 (rs:=[dN cj,H5 true]) (oK rfl rfl rfl rfl rfl rfl rfl) (by rw[y];rfl)
 have E:j<L.length:=by have:=A0 d;omega
 have O:j<W.length:=by omega
 obtain⟨o,ho⟩:∃o,o=L[j]:=⟨_,rfl⟩
 have Q:L[j]?=some o:=by rw[ho];exact VA E
 obtain⟨w,T⟩:∃w,w=W[j]:=⟨_,rfl⟩
 have G:W[j]?=some w:=by rw[T];exact VA O
 have ah:=ac w (VZ G);have P:=FD (f:=f) (o:=o) (by rw[<-U];exact VZ Q);have af:(JX L)[((j:Nat):Int).toNat*1+0]?=some (.ref 6 o):=by rw[VC,Nat.mul_one,Nat.add_zero,WK,Q];rfl
 have M:Nat.ble (o+1) 6=true:=by rcases P with rfl | rfl | rfl<;>rfl
 rw[VN E,<-ho,VN O,<-T,cW]at y;have v:=CE w 0 (Nat.zero_le _) (by omega);cases z:kU w with
 | none =>
  rw[z]at y;rw[GL (by rw[List.drop_zero];exact z)]at v;refine k5 (k1 (k2 (k3 (k2 ?_))));refine A7 (A6 (A8 Z Z) Z (A6 (B6 Z (.pure _ _ _ _) Z (by omega) G) Z (A6 (C0 Z Z) Z (A6 (A9 Z Z) Z (A6 (A9 Z Z) Z (B0 ?_))))));refine k1 (k2 ?_);refine A7 (A6 (A8 Z Z) Z (C8 (v) Z Z Z ?_));rintro _ rfl;refine A6 (A8 Z Z) Z (A6 (C1 Z Z) Z (A6 (C1 Z Z) Z (A6 (C1 Z Z) Z (A6 (A9 Z Z) Z (A6 (A9 Z Z) Z (A6 (A9 Z Z) Z (B0 ?_)))))));refine k1 (k2 (k2 ?_));refine A7 (A6 (A8 Z Z) Z (A6 (Y7 Z) Z (A6 (A8 Z Z) Z (B3 Z Z Z Z (fun l=>by rw[l];exact A8 Z Z) ?_))));refine B3 Z Z Z Z (fun l=>by rw[l];exact A8 Z Z) ?_;refine B3 Z Z Z Z (fun l=>by rw[l];exact L1 Z) ?_;refine B3 Z Z Z Z (fun l=>by rw[l];exact P5 Z Z) ?_;refine A6 (C3 Z (fun h=>by first | rfl | (rw[h];rfl)) (fun h=>by first | rfl | (rw[h];rfl))) Z ?_;refine B0 ?_;refine k1 ?_;refine B5 rfl (fun d=>?_) (fun d=>?_);rotate_left
  ·exact absurd d (by simp)
  refine k2 ?_;refine A7 (A6 (I9 Z) Z (H3 (D5 TySz.out Z Z Z Z Z Z) (A6 (A9 Z Z) Z (B0 ?_))));refine k1 (I8 (M6 (X4 (M6 (M6 (X4 (M6 ?_)))))));exact B9 (rs:=[dN jA,H5 false]) (oK rfl rfl rfl rfl rfl rfl rfl) (by rw[y];rfl)
 | some p =>
  obtain⟨n,e⟩:=p;rw[z]at y;rw[GK (by rw[List.drop_zero];exact z)]at v;dsimp only at y;refine k5 (k1 (k2 (k3 (k2 ?_))));refine A7 (A6 (A8 Z Z) Z (A6 (B6 Z (.pure _ _ _ _) Z (by omega) G) Z (A6 (C0 Z Z) Z (A6 (A9 Z Z) Z (A6 (A9 Z Z) Z (B0 ?_))))));refine k1 (k2 ?_);refine A7 (A6 (A8 Z Z) Z (C8 (v) Z Z Z ?_));rintro _ rfl;refine A6 (A8 Z Z) Z (A6 (C1 Z Z) Z (A6 (C1 Z Z) Z (A6 (C1 Z Z) Z (A6 (A9 Z Z) Z (A6 (A9 Z Z) Z (A6 (A9 Z Z) Z (B0 ?_)))))));refine k1 (k2 (k2 ?_));refine A7 (A6 (A8 Z Z) Z (A6 (Y7 Z) Z (A6 (A8 Z Z) Z (B3 Z Z Z Z (fun l=>by rw[l];exact A8 Z Z) ?_))));refine B3 Z Z Z Z (fun l=>by rw[l];exact A8 Z Z) ?_;refine B3 Z Z Z Z (fun l=>by rw[l];exact L1 Z) ?_;refine B3 Z Z Z Z (fun l=>by rw[l];exact P5 Z Z) ?_;refine A6 (C3 Z (fun h=>by first | rfl | (rw[h];rfl)) (fun h=>by first | rfl | (rw[h];rfl))) Z ?_;refine B0 ?_;refine k1 ?_;refine B5 rfl (fun d=>?_) (fun d=>?_)
  ·have q:¬e=w.length:=fun h=>by
    revert d;simp[h]
   rw[A5 q]at y;refine k2 ?_;refine A7 (A6 (I9 Z) Z (H3 (D5 TySz.out Z Z Z Z Z Z) (A6 (A9 Z Z) Z (B0 ?_))));refine k1 (I8 (M6 (X4 (M6 (M6 (X4 (M6 ?_)))))));exact B9 (rs:=[dN jA,H5 false]) (oK rfl rfl rfl rfl rfl rfl rfl) (by rw[y];rfl)
  have he:e=w.length:=by
   apply Classical.byContradiction;intro h;revert d;simp;omega
  rw[A4 he]at y;refine k5 (k1 ?_);refine A7 (A6 (A8 Z Z) Z (A6 (A8 Z Z) Z (A6 (eF Z Z Z (by omega) (by omega)) Z (A6 (sW Z Z af) Z (A6 (A8 Z Z) Z (A6 (C4 Z) Z (H3 (D5 TySz.out Z Z Z Z Z (M)) (B0 ?_))))))));refine k4 (k1 ?_);refine A7 (A6 (D8 Z Z (by omega)) Z (A6 (A8 Z Z) Z (B0 ?_)));refine k1 ?_;exact⟨(j+1,cj.put o n),⟨E,y⟩,by dsimp only;omega,(by dsimp only;rw[<-zR (n:Int) P];exact (Sees.of ⟨B1 rfl,B1 rfl,B1 rfl,B1 rfl,B1 rfl,B1 rfl,trivial⟩ ⟨rfl,rfl,rfl,trivial⟩))⟩
theorem GO(l:Str)(q:List Str)(D:q≠[])(K:∀w∈q,w.length<=1048576)(I:q.length<=1048576)(G:FnOk Tryz.prog 13 [H1 l] (fun rs=>rs=[jO q,H5 true])) :
  FnOk Tryz.prog 101 [H1 l] (fun rs=>rs=[dN (jB q).1,E6 (jB q).2]):=by
 obtain⟨w,r,rfl⟩:=List.exists_cons_of_ne_nil D;obtain⟨R,F⟩:∃R,R=jB (w::r):=⟨_,rfl⟩
 have v:R=match cX w r formsL with
  | some c=>(c,0)
  | none=>(jA,320):=F
 rw[<-F];refine FnOk.intro Tryz.func101 (by decide) Z Z Z Z ?_;refine k2 ?_;refine A7 (D3 (L4 2 Z) Z (A6 (A9 Z Z) Z (B0 ?_)));refine k1 (k2 ?_);refine A7 (A6 (A8 Z Z) Z (C8 (G) Z Z Z ?_));rintro _ rfl;refine A6 (A8 Z Z) Z (A6 (C1 Z Z) Z (A6 (C1 Z Z) Z (A6 (A9 Z Z) Z (A6 (A9 Z Z) Z (B0 ?_)))));refine k1 (k2 (k2 ?_));refine A7 (A6 (A8 Z Z) Z (A6 (Y7 Z) Z (A6 (A8 Z Z) Z (B3 Z Z Z Z (fun z=>by rw[z];exact A8 Z Z) ?_))));refine B3 Z Z Z Z (fun z=>by rw[z];exact F7 Z (.pure _ _ _ _)) ?_;refine B3 Z Z Z Z (fun z=>by rw[z];exact J1 Z Z) ?_;refine A6 (C3 Z (fun h=>by first | rfl | (rw[h];rfl)) (fun h=>by first | rfl | (rw[h];rfl))) Z ?_;refine B0 ?_;refine k1 ?_;refine B5 rfl (fun d=>?_) (fun d=>?_)
 ·exfalso;revert d;simp
  try omega
 refine k5 (k1 (k2 (k2 ?_)));refine A7 (C8 (tI) Z Z Z ?_);rintro _ rfl;refine A6 (F7 Z (.pure _ _ _ _)) Z (A6 (A8 Z Z) Z (B0 ?_));refine k1 (k3 ?_);refine D9 (X:=Nat) (fun i=>([(2,.s (.one (.ref 2 0))),(4,E2 Str 1 y1 (w::r)),(23,E2 CForm 6 qU formsL),(24,D1 10),(25,D1 i)],[(2,.box (kV jA))])) (fun i=>i<=10/\cX w r formsL=cX w r (formsL.drop i)) (fun i=>10-i) 0 ⟨Nat.zero_le _,rfl⟩ (Sees.of ⟨B1 rfl,B1 rfl,B1 rfl,B1 rfl,B1 rfl,trivial⟩ ⟨rfl,trivial⟩) ?_;rintro i ⟨H,j⟩;dsimp only at H j ⊢;refine k2 ?_;refine A7 (A6 (F1 Z Z) Z (B0 ?_));refine k1 (k2 ?_);refine B5 rfl (fun d=>?_) (fun d=>?_);rotate_left
 ·have C:i=10:=by have:=A1 d;omega
  subst C;have m:R=(jA,320):=by rw[v,j];rfl
  refine k6 (k2 ?_);refine A7 (A6 (I9 Z) Z (H3 (D5 TySz.out Z Z Z Z Z Z) (A6 (A9 Z Z) Z (B0 ?_))));refine k1 (I8 ?_);exact B9 (rs:=[dN jA,E6 320]) (oK rfl rfl rfl rfl rfl rfl rfl) (by rw[m])
 have k:i<formsL.length:=by have h:=A0 d;show i<10;omega
 obtain⟨f,y⟩:∃f,f=formsL[i]:=⟨_,rfl⟩
 have J:formsL[i]?=some f:=by rw[y];exact VA k
 rw[VN k,<-y,cX]at j;refine k5 (k1 (k2 (k3 (k2 ?_))));refine A7 (A6 (B6 Z (.pure _ _ _ _) Z (by omega) J) Z (A6 (H7 Z Z) Z (D3 (L4 7 Z) Z (H3 (D5 TySz.out Z Z Z Z Z Z) (B0 ?_)))));refine k1 (k2 (k2 ?_));refine H2 (by kernel_rfl) (by kernel_rfl) (C2 (B2 Z) Z Z (C2 (B4 Z Z Z) Z Z (C2 (A8 Z Z) Z Z (C2 (B6 Z (.pure _ _ _ _) Z (by omega) (show (w::r)[(0:Int).toNat]?=some w from Z)) Z Z (C2 (C0 Z Z) Z Z (C2 (nV Z Z) Z Z (i7 ?_)))))));refine k1 ?_;refine B5 rfl (fun d=>?_) (fun d=>?_)
 ·have E:f.word≠w:=A0 d;rw[A4 E]at j;refine k6 (k7 (k8 Z (k1 ?_)));refine A7 (A6 (D8 Z Z (by omega)) Z (A6 (A8 Z Z) Z (B0 ?_)));refine k1 ?_;exact⟨i+1,⟨k,j⟩,by have:formsL.length=10:=rfl;omega,Sees.of ⟨B1 rfl,B1 rfl,B1 rfl,B1 rfl,B1 rfl,trivial⟩ ⟨rfl,trivial⟩⟩
 have B:¬f.word≠w:=A1 d;rw[A5 B]at j;have g:=JZ f r (fun x L=>K x (by simp[L])) (by simp only[VD]at I;omega);cases A:x5 f r with
 | some c =>
  rw[A]at g j;have m:R=(c,0):=by rw[v,j]
  refine k5 (k1 (k2 ?_));refine jW [8,7] [[],[7],[8,7]] [(0,[7]),(1,[7]),(2,[7]),(3,[7]),(4,[7]),(5,[7]),(6,[7]),(6,[8,7])] (by kernel_rfl) (by kernel_rfl) (p9 Z (H0 Z Z Z) (p9 Z (A8 Z Z) (p9 Z (fD Z (.pure _ _ _ _) Z (by ((try simp only[VD]);omega)) (by ((try simp only[VD]);omega))) ?_)));refine p9 Z (L3 (g) Z Z) (p9 Z (A8 Z Z) (p9 Z (C1 Z Z) (p9 Z (C1 Z Z) (EE 8 Z Z (EF (mL TySz.out Z Z Z Z Z Z) (p9 Z (A9 Z Z) ?_))))));refine OC rfl ?_ ?_
  ·refine r5 Z Z (H0 Z Z Z) (r5 Z Z (A8 Z Z) (r5 Z Z (fD Z (.pure _ _ _ _) Z (by ((try simp only[VD]);omega)) (by ((try simp only[VD]);omega))) ?_));refine r5 Z Z (L3 (g) Z Z) (r5 Z Z (A8 Z Z) (r5 Z Z (C1 Z Z) (r5 Z Z (C1 Z Z) (r5 Z Z (C1 Z Z) ?_))));exact OD
  refine k1 (k2 ?_);refine A7 (A6 (A8 Z Z) Z (B0 ?_));refine k1 ?_;refine B5 rfl (fun d=>?_) (fun d=>?_);rotate_left
  ·cases d
  refine k2 ?_;refine A7 (A6 (H0 Z Z Z) Z (H3 (D5 TySz.out Z Z Z Z Z Z) (A6 (A9 Z Z) Z (B0 ?_))));refine k1 (I8 (X4 (M6 (M6 (X4 (M6 ?_))))));exact B9 (rs:=[dN c,E6 0]) (oK rfl rfl rfl rfl rfl rfl rfl) (by rw[m])
 | none =>
  rw[A]at g j;refine k5 (k1 (k2 ?_));refine jW [8,7] [[],[7],[8,7]] [(0,[7]),(1,[7]),(2,[7]),(3,[7]),(4,[7]),(5,[7]),(6,[7]),(6,[8,7])] (by kernel_rfl) (by kernel_rfl) (p9 Z (H0 Z Z Z) (p9 Z (A8 Z Z) (p9 Z (fD Z (.pure _ _ _ _) Z (by ((try simp only[VD]);omega)) (by ((try simp only[VD]);omega))) ?_)));refine p9 Z (L3 (g) Z Z) (p9 Z (A8 Z Z) (p9 Z (C1 Z Z) (p9 Z (C1 Z Z) (EE 8 Z Z (EF (mL TySz.out Z Z Z Z Z Z) (p9 Z (A9 Z Z) ?_))))));refine OC rfl ?_ ?_
  ·refine r5 Z Z (H0 Z Z Z) (r5 Z Z (A8 Z Z) (r5 Z Z (fD Z (.pure _ _ _ _) Z (by ((try simp only[VD]);omega)) (by ((try simp only[VD]);omega))) ?_));refine r5 Z Z (L3 (g) Z Z) (r5 Z Z (A8 Z Z) (r5 Z Z (C1 Z Z) (r5 Z Z (C1 Z Z) (r5 Z Z (C1 Z Z) ?_))));exact OD
  refine k1 (k2 ?_);refine A7 (A6 (A8 Z Z) Z (B0 ?_));refine k1 ?_;refine B5 rfl (fun d=>?_) (fun d=>?_)
  ·cases d
  refine k5 (k4 (k1 ?_));refine A7 (A6 (D8 Z Z (by omega)) Z (A6 (A8 Z Z) Z (B0 ?_)));refine k1 ?_;exact⟨i+1,⟨k,j⟩,by have:formsL.length=10:=rfl;omega,Sees.of ⟨B1 rfl,B1 rfl,B1 rfl,B1 rfl,B1 rfl,trivial⟩ ⟨rfl,trivial⟩⟩
theorem pU(a:List Str)(c:a≠[])(d:∀w∈a,w≠[]/\w.all O7=true/\w.length<=1048576)(f:(M9 a).length<=1048576) :
  FnOk Tryz.prog 101 [H1 (M9 a)] (fun i=>i=[dN (jB a).1,E6 (jB a).2]) :=
 GO (M9 a) a c (fun w b=>(d w b).2.2) (Nat.le_trans (qY a fun w b=>(d w b).1) f) (CF a c (fun w b=>⟨(d w b).1,(d w b).2.1⟩) f)
theorem GP(s:Str)(J:s.length<=536870912):FnOk Tryz.prog 52 [H1 s] (fun rs=>rs=[jO (rE s).1,E6 (rE s).2]):=by
 obtain⟨R,F⟩:∃R,R=rE s:=⟨_,rfl⟩
 have b:=F;unfold rE at b;rw[<-F];refine FnOk.intro Tryz.func52 (by decide) Z Z Z Z ?_;refine k2 ?_;refine A7 (A6 (G8 _ 1 y1) Z (A6 (A9 Z Z) Z (B0 ?_)));refine k1 (k2 (k2 ?_));refine A7 (A6 (A8 Z Z) Z (A6 (L1 Z) Z (A6 (N5 Z Z) Z (B0 ?_))));refine k1 ?_;refine B5 rfl (fun d=>?_) (fun d=>?_)
 ·have q:65536<s.length:=by have:=A0 d;omega
  rw[A4 q]at b;refine k2 ?_;refine A7 (A6 (G8 _ 1 y1) Z (A6 (A9 Z Z) Z (B0 ?_)));refine k1 (I8 (M6 ?_));exact B9 (rs:=[jO [],E6 1]) (V2 rfl rfl rfl rfl rfl) (by rw[b])
 have q:¬65536<s.length:=by have:=A1 d;omega
 rw[A5 q]at b;obtain⟨P,E⟩:∃P,P=X9 s:=⟨_,rfl⟩
 have B:∀t∈P.1,t.length<=1048576:=by
  intro t p;rw[E]at p;unfold X9 at p;split at p
  ·cases p
  ·have x:=(DI s).1;have M:t.length<=(G4 s).flatten.length:=(List.sublist_flatten_of_mem p).length_le;omega
 have G:=BQ s J;rw[<-E]at G b;refine k5 (k1 (k2 ?_));refine A7 (A6 (A8 Z Z) Z (bF (G) Z Z Z Z ?_));rintro _ _ ⟨rfl,rfl⟩;refine⟨rfl,?_⟩;refine A6 (A8 Z Z) Z (A6 (C1 Z Z) Z (A6 (C1 Z Z) Z (A6 (A9 Z Z) Z (A6 (A9 Z Z) Z (B0 ?_)))));refine k1 (k2 (k2 ?_));refine A7 (A6 (A8 Z Z) Z (A6 (P5 Z Z) Z (A6 (A8 Z Z) Z (B3 Z Z Z Z (fun z=>by rw[z];exact A8 Z Z) ?_))));refine B3 Z Z Z Z (fun z=>by rw[z];exact P9 Z Z) ?_;refine B3 Z Z Z Z (fun z=>by rw[z];exact N5 Z Z) ?_;refine A6 (C3 Z (fun h=>by first | rfl | (rw[h];rfl)) (fun h=>by first | rfl | (rw[h];rfl))) Z ?_;refine B0 ?_;refine k1 ?_;refine B5 rfl (fun d=>?_) (fun d=>?_)
 ·have x:P.2≠0\/100<P.1.length:=by
   rw[or_pick]at d;have:=A0 d;omega
  rw[A4 x]at b;refine k2 ?_;refine A7 (A6 (G8 _ 1 y1) Z (A6 (A9 Z Z) Z (B0 ?_)));refine k1 (I8 (M6 ?_));exact B9 (rs:=[jO [],E6 1]) (V2 rfl rfl rfl rfl rfl) (by rw[b])
 have x:¬(P.2≠0\/100<P.1.length):=by
  rw[or_pick]at d;have:=A1 d;omega
 rw[A5 x]at b;have H:P.1.length<=100:=by omega
 refine k5 (k1 (k2 (k2 ?_)));refine A7 (A6 (A8 Z Z) Z (A6 (P9 Z Z) Z (A6 (A8 Z Z) Z (B0 ?_))));refine k1 (k3 ?_);refine D9 (X:=Nat) (fun i=>([(4,.s (.one (.mut 9))),(23,.s (.one (.mut 9))),(24,D1 P.1.length),(25,D1 i)],[(9,fK (aF P.1 i))])) (fun i=>i<=P.1.length) (fun i=>P.1.length-i) 0 (Nat.zero_le _) (by dsimp only;rw[DO];exact (Sees.of ⟨B1 rfl,B1 rfl,B1 rfl,B1 rfl,trivial⟩ ⟨rfl,trivial⟩)) ?_;intro i I;dsimp only at I ⊢;have y:=IA P.1 i;refine k2 ?_;refine A7 (A6 (F1 Z Z) Z (B0 ?_));refine k1 (k2 ?_);refine B5 rfl (fun d=>?_) (fun d=>?_)
 ·have v:i<P.1.length:=by have q:=A0 d;(try dsimp only at q);omega
  obtain⟨t,w⟩:∃t,t=P.1[i]:=⟨_,rfl⟩
  have L:(aF P.1 i)[i]?=some t:=by rw[w];exact IB v
  have A:(aF P.1 i)[((i:Nat):Int).toNat]?=some t:=by rw[VC];exact L
  have r:=IC v;rw[<-w]at r;have K:t.length<=1048576:=B t (by rw[w];exact VE v);have C:FnOk Tryz.prog 99 [H1 t,H1 [10]] (fun rs=>rs=[H1 (fC t)]):=rR t [10] (by omega);refine k5 (k1 (k2 (k3 (k2 ?_))));refine A7 (A6 (A8 Z Z) Z (A6 (F0 Z Z Z (by omega) (by (rw[y];omega))) Z ?_));refine A6 (S3 Z Z A Z) Z (A6 (A9 Z Z) Z (A6 (A9 Z Z) Z (B0 ?_)));refine k1 ?_;refine A7 (A6 (A8 Z Z) Z (A6 (A8 Z Z) Z (A6 (A8 Z Z) Z (C8 (C) Z Z Z ?_))));rintro _ rfl;refine A6 (F0 Z Z Z (by omega) (by (rw[y];omega))) Z ?_;refine H3 (Z1 ((fC t)) TySz.out Z Z A Z Z Z Z (fun _ _ _ h=>W8 h) (by intro j q x;rcases j with _ | _ | _ | _ | _ | _ | _ | j<;>first | rfl | omega)) ?_;refine B0 ?_;refine k4 (k1 ?_);refine A7 (A6 (D8 Z Z (by omega)) Z (A6 (A8 Z Z) Z (B0 ?_)));refine k1 ?_;exact⟨i+1,by omega,by omega,(by rw[<-r];exact (Sees.of ⟨B1 rfl,B1 rfl,B1 rfl,B1 rfl,trivial⟩ ⟨rfl,trivial⟩))⟩
 have D:i=P.1.length:=by have q:=A1 d;(try dsimp only at q);omega
 rw[D,ID];refine k6 (k2 ?_);refine A7 (A6 (A8 Z Z) Z (A6 (A9 Z Z) Z (A6 (A9 Z Z) Z (B0 ?_))));refine k1 (I7 (Sees.freezeG (k:=9) (α:=Str) (ec:=1) (c:=y1) (xs:=P.1.map fC) (e:=9) rfl rfl) ?_);refine I8 ?_;exact B9 (rs:=[jO (P.1.map fC),E6 0]) (V2 rfl rfl rfl rfl rfl) (by rw[b])
theorem CG(ns:List Int)(h:ns.length<=8):FnOk Tryz.prog 77 [K0 ns] (fun rs=>rs=[H1 (s8 ns++[10])]):=by
 have g:x6 ns 0=[99,111,109,109,105,116]:=by simp[x6,kW]
 refine FnOk.intro Tryz.func77 (by decide) Z Z Z Z ?_;refine k2 ?_;refine A7 (A6 (A9 Z Z) Z (B0 ?_));refine k1 (k2 ?_);refine A7 (A6 (A9 Z Z) Z (B0 ?_));refine k1 (k2 (k2 ?_));refine A7 (A6 (A8 Z Z) Z (A6 (F7 Z (.pure _ _ _ _)) Z (A6 (A8 Z Z) Z (B0 ?_))));refine k1 (k3 ?_);refine D9 (X:=Nat) (fun i=>([(3,P4 (x6 ns i)),(6,E2 Int 1 G2 ns),(7,D1 ns.length),(8,D1 i)],[])) (fun i=>i<=ns.length) (fun i=>ns.length-i) 0 (Nat.zero_le _) (by dsimp only;rw[g];exact (Sees.of ⟨B1 rfl,B1 rfl,B1 rfl,B1 rfl,trivial⟩ trivial)) ?_;intro i k;dsimp only at k ⊢;have l:=fR ns i;refine k2 ?_;refine A7 (A6 (F1 Z Z) Z (B0 ?_));refine k1 (k2 ?_);refine B5 rfl (fun d=>?_) (fun d=>?_)
 ·have c:i<ns.length:=by have a:=A0 d;(try dsimp only at a);omega
  obtain⟨n,m⟩:∃n,n=ns[i]:=⟨_,rfl⟩
  have f:ns[i]?=some n:=by rw[m];exact VA c
  have j:=bK n;have o:=qZ f;refine k5 (k1 (k2 (k3 (k2 ?_))));refine A7 (A6 (B6 Z (.pure _ _ _ _) Z (by omega) f) Z (A6 (C0 Z Z) Z (A6 (A9 Z Z) Z (B0 ?_))));refine k1 ?_;refine A7 (A6 (A8 Z Z) Z (A6 (A8 Z Z) Z (C8 (cG n) Z Z Z ?_)));rintro _ rfl;refine A6 (K6 Z Z (by (simp;omega))) Z (A6 (K6 Z Z (by (simp;omega))) Z (A6 (A9 Z Z) Z (B0 ?_)));rw[<-o];refine k4 (k1 ?_);refine A7 (A6 (D8 Z Z (by omega)) Z (A6 (A8 Z Z) Z (B0 ?_)));refine k1 ?_;exact⟨i+1,by omega,by omega,Sees.of ⟨B1 rfl,B1 rfl,B1 rfl,B1 rfl,trivial⟩ trivial⟩
 have b:i=ns.length:=by have a:=A1 d;(try dsimp only at a);omega
 rw[b]at l ⊢;refine k6 (k2 ?_);refine A7 (A6 (A8 Z Z) Z (A6 (K6 Z Z (by (simp;omega))) Z (A6 (A9 Z Z) Z (B0 ?_))));refine k1 (I8 ?_);exact B9 (rs:=[H1 (x6 ns ns.length++[10])]) (I5 rfl rfl rfl) rfl
theorem eM(l:List Int)(e:Int)(h:l.length<=1000):FnOk Tryz.prog 33 [K0 l,E6 e] (fun rs=>rs=[H1 (KY (l.map fun c=>[c])),E6 e]):=by
 obtain⟨L,a⟩:∃L:List (List Int),L=l.map fun c=>[c]:=⟨_,rfl⟩
 have v:L.length=l.length:=by rw[a,VW]
 have x:∀ns∈L,ns.length<=1:=fun ns b=>by
  rw[a]at b;obtain⟨c,_,rfl⟩:=VT.1 b;exact Nat.le_refl _
 rw[<-a];refine FnOk.intro Tryz.func33 (by decide) Z Z Z Z ?_;refine k2 ?_;refine A7 (A6 (A9 Z Z) Z (A6 (A9 Z Z) Z (B0 ?_)));refine k1 (k2 ?_);refine A7 (A6 (A9 Z Z) Z (B0 ?_));refine k1 (k2 (k2 ?_));refine A7 (A6 (A8 Z Z) Z (A6 (F7 Z (.pure _ _ _ _)) Z (A6 (A8 Z Z) Z (B0 ?_))));refine k1 (k3 ?_);refine D9 (X:=Nat) (fun i=>([(1,D1 e),(6,P4 (o6 L i)),(9,E2 Int 1 G2 l),(10,D1 l.length),(11,D1 i)],[])) (fun i=>i<=l.length) (fun i=>l.length-i) 0 (Nat.zero_le _) (by dsimp only;rw[uA];exact (Sees.of ⟨B1 rfl,B1 rfl,B1 rfl,B1 rfl,B1 rfl,trivial⟩ trivial)) ?_;intro i w;dsimp only at w ⊢;have z:=mB x i;refine k2 ?_;refine A7 (A6 (F1 Z Z) Z (B0 ?_));refine k1 (k2 ?_);refine B5 rfl (fun m=>?_) (fun m=>?_)
 ·have k:i<l.length:=by have d:=A0 m;(try dsimp only at d);omega
  obtain⟨n,b⟩:∃n,n=l[i]:=⟨_,rfl⟩
  have s:l[i]?=some n:=by rw[b];exact VA k
  have o:L[i]?=some [n]:=by rw[a,WK,s];rfl
  have y:=jC o;have f:=fR [n] 1;have q:(s8 [n]).length<=17:=f;refine k5 (k1 (k2 (k3 (k2 ?_))));refine A7 (A6 (B6 Z (.pure _ _ _ _) Z (by omega) s) Z (A6 (C0 Z Z) Z (A6 (A9 Z Z) Z (B0 ?_))));refine k1 ?_;refine A7 (A6 (A8 Z Z) Z (A6 (A8 Z Z) Z (A6 (D2 (c:=G2) (ys:=[n]) (D6 Z Z Z Z G1) Z Z Z) Z (C8 (CG [n] (by simp)) Z Z Z ?_))));rintro _ rfl;refine A6 (K6 Z Z (by (simp;omega))) Z (A6 (A9 Z Z) Z (B0 ?_));rw[<-y];refine k4 (k1 ?_);refine A7 (A6 (D8 Z Z (by omega)) Z (A6 (A8 Z Z) Z (B0 ?_)));refine k1 ?_;exact⟨i+1,by omega,by omega,Sees.of ⟨B1 rfl,B1 rfl,B1 rfl,B1 rfl,B1 rfl,trivial⟩ trivial⟩
 have j:i=L.length:=by have d:=A1 m;(try dsimp only at d);omega
 rw[j];refine k6 (k2 ?_);refine A7 (A6 (A8 Z Z) Z (A6 (A8 Z Z) Z (A6 (A9 Z Z) Z (A6 (A9 Z Z) Z (B0 ?_)))));refine k1 (I8 ?_);exact B9 (rs:=[H1 (o6 L L.length),E6 e]) (V2 rfl rfl rfl rfl rfl) rfl
end Go.Proofs.YtbflhoahmmfkmaaGreatDoor
