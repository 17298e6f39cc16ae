
/- Walks of the program's functions. -/
import Derived.Test.YtabbdaafimcjhaaGreatDoorFd
set_option linter.all false
namespace Go.Proofs.YtabbdaafimcjhaaGreatDoor
open Go Go.AL
open Tryz (prog)
set_option maxRecDepth 100000
set_option maxHeartbeats 4000000
theorem tid_old{gf:Fr}{ob:Obs}(c:List Str)(s:Str)(q:s∈c)(j:B5 ob 710=some (.box [.mut 711,.buf 712 Str 1 L8 c]))(k:B5 ob 711=some (.map Str cM (gJ c 0))) :
  AL.Met prog 124 [.one (.ref 710 0),.one (.p (.v (.string ⟨s.toArray⟩)))] gf ob [] (fun w ob'=>w=[.one (.p (.v (.int .i64 (M5 c s 0))))]/\ob'=ob):=by
 have l:=KU s c 0 q;refine AL.Met.intro Tryz.func124 F1 A0 A0 A0 (Z2 ?_);refine B2 (E7 A0 j A0) A0 (G5 ?_);refine B2 (oS (s) (r:=some (.v (.int .i64 (M5 c s 0)))) A0 k A0 eN eO (l)) A0 ?_;refine zc 12 (fun d=>?_) fun d=>?_
 ·cases d
 refine I3 ?_;exact D1 V9 iV (fun _ _ h=>h) ⟨rfl,rfl⟩
theorem tid_new{gf:Fr}{ob:Obs}(d:List Str)(s:Str)(C:s∉d)(E:d.length<=1073741823)(q:B5 ob 710=some (.box [.mut 711,.buf 712 Str 1 L8 d]))(y:B5 ob 711=some (.map Str cM (gJ d 0)))
  (B:B5 ob 712=some (.spare d.length 1 9)) :
  AL.Met prog 124 [.one (.ref 710 0),.one (.p (.v (.string ⟨s.toArray⟩)))] gf ob [712] (fun D ob'=>D=[.one (.p (.v (.int .i64 d.length)))]/\ob'=(710,.box [.mut 711,.buf 712 Str 1 L8 (d++[s])])::(712,.spare (d++[s]).length 1 9)::Obs.forget 712 ((711,.map Str cM (gJ d 0++[(s,.v (.int .i64 d.length))]))::ob)):=by
 have z:=FQ s d 0 C;refine AL.Met.intro Tryz.func124 F1 A0 A0 A0 (Z2 ?_);refine B2 (E7 A0 q A0) A0 (G5 ?_);refine B2 (oS (s) (r:=none) A0 y A0 eN eO (z)) A0 ?_;refine zc 12 (fun A=>?_) fun A=>?_
 ·refine I2 ?_;refine B2 (E7 A0 q A0) A0 (R3 ?_);refine B2 (E7 A0 q A0) A0 (F5 ?_);refine U0 (PT (s) A0 y A0 A0 A0 eN eO (z)) (G5 ?_);have j:B5 ((711,Ob.map Str cM (gJ d 0++[(s,.v (.int .i64 d.length))]))::ob) 710=some (.box [.mut 711,.buf 712 Str 1 L8 d]):=by rw[A8 F1];exact q
  have w:B5 ((711,Ob.map Str cM (gJ d 0++[(s,.v (.int .i64 d.length))]))::ob) 712=some (.spare d.length 1 9):=by rw[A8 F1];exact B
  have k:B5 ((712,Ob.spare (d++[s]).length 1 9)::Obs.forget 712 ((711,Ob.map Str cM (gJ d 0++[(s,.v (.int .i64 d.length))]))::ob)) 710=some (.box [.mut 711,.p (.list Str 1 L8 d)]):=by
   rw[A8 F1,K3,j];rfl
  refine I2 ?_;refine B2 (E7 A0 j A0) A0 (G5 ?_);refine B2 (B7 (c:=L8) (ys:=[s]) (C0 A0 A0 A0 A0 D2) A0 A0 A0) A0 (C2 (W4 A0 w A0 (.pure _ _ _ _) PH A0) A0 (F5 ?_));refine U0 (K5 TySz.out A0 k A0 A0 A0 A0) (I3 ?_);exact D1 V9 iV (fun _ _ h=>h) ⟨rfl,rfl⟩
 ·cases A
theorem WR(files:List (List Str))(i m:Nat):(S3 files i).all (TC.free m)=true:=by
 rw[C47];intro t b;unfold S3 at b;obtain⟨r,_,rfl⟩:=C71.1 b;split<;>rfl
theorem A79{files:List (List Str)}{i:Nat}(b x:TC)(m:Nat):(((S3 files i).set i b).map (TC.forget m)).set i x=(S3 files i).set i x:=by
 have c:(S3 files i).map (TC.forget m)=S3 files i:=by
  unfold S3;rw[D01];apply C81;intro r _;simp only[Function.comp];split<;>rfl
 rw[List.map_set,c,List.set_set]
theorem WS{files:List (List Str)}{i:Nat}(b x:TC)(m d:Nat):((((S3 files i).set i b).map (TC.forget m)).map (TC.forget d)).set i x=(S3 files i).set i x:=by
 have c:∀m,(S3 files i).map (TC.forget m)=S3 files i:=by
  intro m;unfold S3;rw[D01];apply C81;intro r _;simp only[Function.comp];split<;>rfl
 rw[List.map_set,c,List.map_set,c,List.set_set]
theorem A80(files:List (List Str))(hn:files.length<=1048576)(hl:files.flatten.length<=536870911):FnOk prog 82 [pStrss files] (fun rs=>rs=[pIntss (files.map (L0 (E0 files))),cG (E0 files)]):=by
 refine FnOk.intro Tryz.func82 F1 A0 A0 A0 A0 (I3 ?_);refine C2 (xL 711 Str cM A0) A0 (G5 ?_);refine C2 (w9 710 A0 A0 A0) A0 (H3 ?_);refine C3 (C18 712 Str 1 L8 9 (kb:=710) (o:=1) A0 A0 A0) (H3 ?_);refine C2 (a8 20 Unit (fun _ _=>.v (.slice none 0 0)) () A0 A0 B1 B1 (fun _=>PE) VH) A0 (P1 ?_);refine C3 (C29 20 A0) ?_;have hz:((List.replicate ((files.length:Nat):Int).toNat ()).map fun x=>TC.p ((fun (_:Unit) (_:Nat)=>Cell.v (.slice none 0 0)) x 0))=S3 files 0:=by
  rw[C37,<-YQ];simp
 have Y:(List.replicate ((files.length:Nat):Int).toNat ()).length=files.length:=by simp
 rw[hz,Y];refine J0 ?_;refine B9 (X:=Nat) (fun i=>([(4,.s (.one (.ref 710 0))),(5,.s (.one (.mut 20))),(16,B8 (List Str) 1 strsC files),(17,B6 files.length),(18,B6 i)],[(710,.box [.mut 711,.buf 712 Str 1 L8 (Q8 files i 0)]),(711,.map Str cM (gJ (Q8 files i 0) 0)),(712,.spare (Q8 files i 0).length 1 9),(20,.tarr files.length 1 (S3 files i))])) (fun i=>i<=files.length) (fun i=>files.length-i) 0 (C41 _) ?_ ?_
 ·rw[show Q8 files 0 0=[] from rfl];exact C1
 intro i hi;dsimp only at hi ⊢;refine zc 5 (fun K=>?_) fun K=>?_
 ·have G:i<files.length:=by have:=A1 K;omega
  obtain⟨f,M⟩:∃f,f=files.getD i []:=⟨_,rfl⟩
  have hv:files[i]?=some f:=by rw[M];simp[G]
  have ab:f.length<=files.flatten.length:=by
   have h1:f∈files:=C60 hv;have:∀(L:List (List Str)),f∈L->f.length<=L.flatten.length:=by
    intro L;induction L with
    | nil=>intro h;simp at h
    | cons x r ih =>
     intro h;simp only[D03,C40];rcases C50.1 h with rfl | h
     ·omega
     ·have:=ih h;omega
   exact this files h1
  have V:(S3 files i).length=files.length:=by simp[S3]
  refine zz 18 ?_;refine C3 (C32 713 Int 1 C7 3 (kb:=20) (o:=i) A0 (B13 G) (by simp[J2,J9,Ob.free,SV.free,S1.free,TC.free,WR];repeat' (first | rfl | constructor))) ?_;refine B9 (X:=Nat) (fun j=>([(4,.s (.one (.ref 710 0))),(5,.s (.one (.mut 20))),(6,B6 i),(16,B8 (List Str) 1 strsC files),(17,B6 files.length),(18,B6 i),(23,B8 Str 1 L8 f),(24,B6 f.length),(25,B6 j)],[(20,.tarr files.length 1 ((S3 files i).set i (.buf 713 Int 1 C7 (L0 (E0 files) (f.take j))))),(710,.box [.mut 711,.buf 712 Str 1 L8 (Q8 files i j)]),(711,.map Str cM (gJ (Q8 files i j) 0)),(712,.spare (Q8 files i j).length 1 9),(713,.spare (L0 (E0 files) (f.take j)).length 1 3)])) (fun j=>j<=f.length) (fun j=>f.length-j) 0 (C41 _) ?_ ?_
  ·exact C1
  intro j hj;dsimp only at hj ⊢;refine zc 5 (fun K=>?_) fun K=>?_
  ·have B:j<f.length:=by have:=A1 K;omega
   obtain⟨s,Z⟩:∃s,s=f[j]:=⟨_,rfl⟩
   have W:f[j]?=some s:=by rw[Z];simp[B]
   have y:=OG files i j s (by rw[<-M];exact W);obtain⟨d,T⟩:∃d,d=Q8 files i j:=⟨_,rfl⟩
   have S:=FR files i j;obtain⟨rest,w⟩:=AF files i (j+1);obtain⟨q,E⟩:∃q,q=L0 (E0 files) (f.take j):=⟨_,rfl⟩
   have ac:q.length=j:=by rw[E];simp[L0];omega
   have F:L0 (E0 files) (f.take (j+1))=q++[M5 (E0 files) s 0]:=by
    rw[E,D08 B,<-Z];unfold L0;rw[C90];rfl
   rw[y]at w;rw[<-T]at y S w ⊢;rw[<-E];have C:((S3 files i).set i (.buf 713 Int 1 C7 q))[((i:Nat):Int).toNat]?=some (.buf 713 Int 1 C7 q):=by
    rw[C37,D13 (by rw[V];omega)]
   have A:(((S3 files i).set i (.buf 713 Int 1 C7 q)).map (TC.forget 712))[((i:Nat):Int).toNat]?=some (.buf 713 Int 1 C7 q):=by
    rw[C96,C];rfl
   refine Z2 ?_;by_cases z:s∈d
   ·have I:K2 d s=d:=by unfold K2;rw[A6 z]
    rw[I]at y w;have J:M5 (E0 files) s 0=M5 d s 0:=by rw[w];exact pW s rest d 0 z
    refine uI ?_;refine aN ((9,P6 s)::[(4,.s (.one (.ref 710 0))),(5,.s (.one (.mut 20))),(6,B6 i),(16,B8 (List Str) 1 strsC files),(17,B6 files.length),(18,B6 i),(23,B8 Str 1 L8 f),(24,B6 f.length),(25,B6 j)]) [(20,.tarr files.length 1 ((S3 files i).set i (.buf 713 Int 1 C7 q))),(710,.box [.mut 711,.buf 712 Str 1 L8 d]),(711,.map Str cM (gJ d 0)),(712,.spare d.length 1 9),(713,.spare q.length 1 3)] (C1) (N7 [12,10,8] [[],[8],[10,8],[12,10,8]] [(8,([],[])),(10,([713],[34])),(12,([],[]))] [(0,[]),(1,[]),(2,[]),(3,[]),(4,[]),(5,[]),(6,[]),(7,[]),(8,[]),(9,[8]),(10,[8]),(11,[10,8]),(12,[10,8])] [(0,[8]),(0,[10,8]),(1,[8]),(1,[10,8]),(2,[8]),(3,[8]),(4,[8]),(5,[8])] E4 E4 (C6 A0 A0 E4 A0 A0 (C9 A0 A0) (C6 A0 A0 E4 A0 A0 (C9 A0 A0) (C6 A0 A0 E4 A0 A0 (C9 A0 A0) (C6 A0 A0 E4 A0 A0 (C9 A0 A0) (C6 A0 A0 E4 A0 A0 (M6 A0 A0 A0 B1 B1) (C6 A0 A0 E4 A0 A0 (P0 A0 A0 (by first | exact C | exact A)) ?_)))))));refine C6 A0 A0 E4 A0 A0 (C9 A0 A0) (C6 A0 A0 E4 A0 A0 (C9 A0 A0) (Z4 A0 A0 E4 A0 A0 (r_met (fun gf=>tid_old d s z A0 A0) A0 A0) A0 (C6 A0 A0 E4 A0 A0 (B7 (c:=C7) (ys:=[M5 d s 0]) (C0 A0 A0 A0 A0 D2) A0 A0 A0) (Z4 A0 A0 E4 A0 A0 (mL (fun H D=>W4 (S7 D A0) A0 (S7 D A0) (.pure _ _ _ _) PH A0)) A0 (C6 A0 A0 E4 A0 A0 (M6 A0 A0 A0 B1 B1) (Z4 A0 A0 E4 A0 A0 (gV (fun H D=>gU TySz.out (S7 D A0) A0 PF (S7 D A0) A0)) A0 ?_))))));refine CQ E4 rfl ?_ ?_
    ·refine G4 A0 A0 E4 A0 A0 (C9 A0 A0) (G4 A0 A0 E4 A0 A0 (C9 A0 A0) (G4 A0 A0 E4 A0 A0 (C9 A0 A0) (G4 A0 A0 E4 A0 A0 (C9 A0 A0) (G4 A0 A0 E4 A0 A0 (C9 A0 A0) (G4 A0 A0 E4 A0 A0 (C9 A0 A0) (G4 A0 A0 E4 A0 A0 (M6 A0 A0 A0 B1 B1) (G4 A0 A0 E4 A0 A0 (P0 A0 A0 (by first | exact C | exact A)) ?_)))))));exact lA
    refine aN [(4,.s (.one (.ref 710 0))),(5,.s (.one (.mut 20))),(6,B6 i),(16,B8 (List Str) 1 strsC files),(17,B6 files.length),(18,B6 i),(23,B8 Str 1 L8 f),(24,B6 f.length),(25,B6 j)] [(20,.tarr files.length 1 ((S3 files i).set i (.buf 713 Int 1 C7 (q++[M5 d s 0])))),(710,.box [.mut 711,.buf 712 Str 1 L8 (d)]),(711,.map Str cM (gJ (d) 0)),(712,.spare (d).length 1 9),(713,.spare (q++[M5 d s 0]).length 1 3)] (by rw[C37 i,A79];exact C1) ?_;refine P1 ?_;exact⟨j+1,B,by omega,by rw[y,F,J];exact C1⟩
   ·refine uI ?_;have I:K2 d s=d++[s]:=by unfold K2;rw[A7 z]
    rw[I]at y w;have R:gJ (d++[s]) 0=gJ d 0++[(s,.v (.int .i64 (d.length:Int)))]:=by rw[KT];simp only[Int.zero_add]
    have J:M5 (E0 files) s 0=d.length:=by
     rw[w,pW s rest (d++[s]) 0 dV,AE s d 0 z];omega
    refine aN ((9,P6 s)::[(4,.s (.one (.ref 710 0))),(5,.s (.one (.mut 20))),(6,B6 i),(16,B8 (List Str) 1 strsC files),(17,B6 files.length),(18,B6 i),(23,B8 Str 1 L8 f),(24,B6 f.length),(25,B6 j)]) [(20,.tarr files.length 1 ((S3 files i).set i (.buf 713 Int 1 C7 (q)))),(710,.box [.mut 711,.buf 712 Str 1 L8 (d)]),(711,.map Str cM (gJ (d) 0)),(712,.spare (d).length 1 9),(713,.spare (q).length 1 3)] (C1) (N7 [12,10,8] [[],[8],[10,8],[12,10,8]] [(8,([712],[])),(10,([713],[34])),(12,([],[]))] [(0,[]),(1,[]),(2,[]),(3,[]),(4,[]),(5,[]),(6,[]),(7,[]),(8,[]),(9,[8]),(10,[8]),(11,[10,8]),(12,[10,8])] [(0,[8]),(0,[10,8]),(1,[8]),(1,[10,8]),(2,[8]),(3,[8]),(4,[8]),(5,[8])] E4 E4 (C6 A0 A0 E4 A0 A0 (C9 A0 A0) (C6 A0 A0 E4 A0 A0 (C9 A0 A0) (C6 A0 A0 E4 A0 A0 (C9 A0 A0) (C6 A0 A0 E4 A0 A0 (C9 A0 A0) (C6 A0 A0 E4 A0 A0 (M6 A0 A0 A0 B1 B1) (C6 A0 A0 E4 A0 A0 (P0 A0 A0 (by first | exact C | exact A)) ?_)))))));refine C6 A0 A0 E4 A0 A0 (C9 A0 A0) (C6 A0 A0 E4 A0 A0 (C9 A0 A0) (Z4 A0 A0 E4 A0 A0 (r_met (fun gf=>tid_new d s z B1 A0 A0 A0) A0 A0) A0 (C6 A0 A0 E4 A0 A0 (B7 (c:=C7) (ys:=[(d.length:Int)]) (C0 A0 A0 A0 A0 D2) A0 A0 A0) (Z4 A0 A0 E4 A0 A0 (mL (fun H D=>W4 (S7 D A0) A0 (S7 D A0) (.pure _ _ _ _) PH A0)) A0 (C6 A0 A0 E4 A0 A0 (M6 A0 A0 A0 B1 B1) (Z4 A0 A0 E4 A0 A0 (gV (fun H D=>gU TySz.out (S7 D A0) A0 PF (S7 D A0) A0)) A0 ?_))))));refine CQ E4 rfl ?_ ?_
    ·refine G4 A0 A0 E4 A0 A0 (C9 A0 A0) (G4 A0 A0 E4 A0 A0 (C9 A0 A0) (G4 A0 A0 E4 A0 A0 (C9 A0 A0) (G4 A0 A0 E4 A0 A0 (C9 A0 A0) (G4 A0 A0 E4 A0 A0 (C9 A0 A0) (G4 A0 A0 E4 A0 A0 (C9 A0 A0) (G4 A0 A0 E4 A0 A0 (M6 A0 A0 A0 B1 B1) (G4 A0 A0 E4 A0 A0 (P0 A0 A0 (by first | exact C | exact A)) ?_)))))));exact lA
    refine aN [(4,.s (.one (.ref 710 0))),(5,.s (.one (.mut 20))),(6,B6 i),(16,B8 (List Str) 1 strsC files),(17,B6 files.length),(18,B6 i),(23,B8 Str 1 L8 f),(24,B6 f.length),(25,B6 j)] [(20,.tarr files.length 1 ((S3 files i).set i (.buf 713 Int 1 C7 (q++[(d.length:Int)])))),(710,.box [.mut 711,.buf 712 Str 1 L8 (d++[s])]),(711,.map Str cM (gJ (d++[s]) 0)),(712,.spare (d++[s]).length 1 9),(713,.spare (q++[(d.length:Int)]).length 1 3)] (by rw[C37 i,WS,R];exact C1) ?_;refine P1 ?_;exact⟨j+1,B,by omega,by rw[y,F,J];exact C1⟩
  ·have Q:j=f.length:=by have:=A3 K;omega
   subst Q;rw[C48];refine G5 ?_;refine C3 (Sees.forget 713) ?_;have O:((S3 files i).set i (.buf 713 Int 1 C7 (L0 (E0 files) f))).map (TC.forget 713)=S3 files (i+1):=by rw[M];exact OH files i 713 G
   have U:Q8 files (i+1) 0=Q8 files i f.length:=by rw[M];exact TO files i
   refine aN [(4,.s (.one (.ref 710 0))),(5,.s (.one (.mut 20))),(16,B8 (List Str) 1 strsC files),(17,B6 files.length),(18,B6 i)] [(710,.box [.mut 711,.buf 712 Str 1 L8 (Q8 files (i+1) 0)]),(711,.map Str cM (gJ (Q8 files (i+1) 0) 0)),(712,.spare (Q8 files (i+1) 0).length 1 9),(20,.tarr files.length 1 (S3 files (i+1)))] (by rw[U,<-O];exact C1) ?_;refine P1 ?_;exact⟨i+1,G,by omega,C1⟩
 ·have P:i=files.length:=by have:=A3 K;omega
  rw[P,TP];refine C3 (C30 20 (c:=intsC) (files.map (L0 (E0 files))) A0 dV (YR files)) (C3 (Sees.freeze (k:=20) A0) (C3 (Sees.forget 712) (x5 ?_)));exact A9 cN rfl
theorem MZ(files:List (List Str))(b:files.length<=1048576)(a:files.flatten.length<=536870911):FnOk prog 42 [pStrss files] (fun rs=>rs=[pIntss (files.map (L0 (E0 files)))]):=by
 refine FnOk.intro Tryz.func42 F1 A0 A0 A0 A0 (I3 ?_);refine E2 (A80 files b a) (x5 ?_);exact A9 M1 rfl
theorem kE{k:Nat}{ob:Obs}{j:Nat}{o:Ob}(h:B5 (Obs.drop k ob) j=some o):B5 ob j=some o/\j≠k:=by
 by_cases e:j=k
 ·subst e;exfalso;have:∀ob:Obs,B5 (Obs.drop j ob) j=none:=by
   intro ob;induction ob with
   | nil=>rfl
   | cons p r a =>
    obtain⟨i,x⟩:=p;unfold Obs.drop;cases hb:Nat.beq i j
    ·show B5 ((i,x)::Obs.drop j r) j=none;rw[A8 (fun e=>by rw[e,Nat.beq_refl]at hb;cases hb)];exact a
    ·exact a
  rw[this]at h;cases h
 ·rw[lF e]at h;exact⟨h,e⟩
theorem C24{P:Program}{nt:Nat}{fr:Fr}{ob:Obs}{t k:Nat}{M:List TC}{cs:List Cell}(T:D5 fr t=some (.s (.one (.ref k 0))))(y:B5 ob k=some (.box M))(R:gQ M=some cs)(A:Nat.blt k 1000000=true) :
  Sees P nt fr ob ((t,.s (.one (.eref Unit cs.length (fun _ j=>cs.getD j (.v undef)) () 0)))::fr) (Obs.drop k ob):=by
 unfold Sees;intro S G a w W h;have Q:k<1000000:=by simpa using A
 obtain⟨b,X,tt,u,O,c⟩:=h.box y;have K:Sim P S fr (Obs.drop k ob) G a w:=h.weakenO fun j o l=>(kE l).1;have E:∀b i z,E5 (Mut S ob G) w b i z->E5 (Mut S (Obs.drop k ob) G) w b i z:=fun b i z L=>⟨L.1,fun B=>L.2 (B.imp id fun ⟨q,o,D,C⟩=>⟨q,o,(kE D).1,C⟩)⟩
 refine⟨G,{ K with facts:=fun i s g=>?_ }⟩;by_cases J:t=i
 ·subst J;rw[D4]at g;cases g;obtain⟨V,d,U⟩:=h.facts t _ T;rw[u]at d;cases d;refine⟨b,0,by rw[U],fun j l=>?_⟩;have N:=bT R c;obtain⟨z,F,H⟩:=N.get j _ (C36 l);refine⟨z,⟨by rw[C91];exact cell_of_heap O (by simpa using F),?_⟩,?_⟩
  ·rintro (B | ⟨q,o,D,C⟩)
   ·have I:=h.m0 _ _ B;rcases h.old k _ b y (by rw[u];rfl) with m | ⟨_,m⟩
    ·omega
    ·omega
   ·obtain⟨I,m⟩:=kE D;exact m (h.dis q k _ _ b I y C.1 (by rw[u];rfl))
  ·show (cs.getD j (.v undef)).rep _ z;rw[C38,C36 l];exact Cell.rep_mono E _ _ H
 ·rw[C4 J]at g;exact K.facts i s g
abbrev mW(ns:List AL.Node)(w:List Int):Ob:=.box [.p (.list AL.Node 8 P5 ns),.p (.list Int 1 C7 w),.mut 821]
abbrev cR(l:List AL.State):Ob:=.grow 121 AL.State 7 iM l
abbrev mX:S1:=.one (.ref 820 0)
theorem A81{K:List Nat}{T rest:Obs}{k:Nat}(c:B5 rest k=none)(h:∀j x,F0 K j=false->B5 rest j=some x->B5 T j=some x):∀j x,F0 K j=false->B5 rest j=some x->B5 (Obs.drop k T) j=some x:=by
 intro j x b a;have:j≠k:=fun e=>by rw[e,c]at a;cases a
 rw[lF this];exact h j x b a
theorem dK{gf:Fr}{ob:Obs}{ns:List AL.Node}{w:List Int}(l:List AL.State)(q:AL.State)(m:l.length<=100000)(i:B5 ob 820=some (mW ns w))(k:B5 ob 821=some (cR l)) :
  AL.Met prog 66 [mX,(YV q).s1] gf ob [821] (fun rs ob'=>rs=[P7 l.length]/\ob'=(820,mW ns w)::(821,cR (l++[q]))::Obs.forget 821 ob):=by
 refine AL.Met.introH Tryz.func66 F1 rfl rfl rfl (fun d=>?_);refine C3 (C05 821 (l:=[(0,.s mX),(1,.s (YV q).s1)]) (L:=[(820,_),(821,_)]) lf d J6 ⟨i,k,trivial⟩) ?_;refine J0 ?_;refine C3 (C04 (gf':=Fr.forget 821 gf) (l:=[(0,.s mX),(3,.s (.one (.eref Unit 7 (fun _ j=>(cellsOf iM q 0 7).getD j (.v undef)) () 0)))]) (ob':=[(820,mW ns w),(821,cR l)]++Obs.forget 821 ob) lf (eL d) J6 (fun _ _ h=>h)) ?_;refine N7 [10,7] [[],[7],[10,7]] [(7,([821],[9])),(10,([],[]))] [(0,[]),(1,[]),(2,[]),(3,[]),(4,[]),(5,[]),(6,[]),(7,[]),(8,[7]),(9,[7]),(10,[7])] [(0,[7])] E4 E4 (C6 A0 A0 E4 A0 A0 (C9 A0 A0) (C6 A0 A0 E4 A0 A0 (C9 A0 A0) (C6 A0 A0 E4 A0 A0 (F3 A0) (C6 A0 A0 E4 A0 A0 (F4 A0) (C6 A0 A0 E4 A0 A0 (E7 A0 A0 A0) (C6 A0 A0 E4 A0 A0 (W8 A0 A0) (C6 A0 A0 E4 A0 A0 (B7 (c:=iM) (ys:=[q]) (C0 A0 A0 A0 A0 D2) A0 A0 A0) (Z4 A0 A0 E4 A0 A0 (mL (fun b a=>R4 (S7 a A0) A0 (S7 a A0) (.pure _ _ _ _) PH A0)) A0 (C6 A0 A0 E4 A0 A0 (F3 A0) (C6 A0 A0 E4 A0 A0 (F4 A0) (Z4 A0 A0 E4 A0 A0 (gV (fun b a=>K5 TySz.out (S7 a A0) A0 (S7 a A0) A0 A0 A0)) A0 ?_)))))))))));refine tE (ks:=[821]) rfl E4 rfl ?_ ?_
 ·refine G4 A0 A0 E4 A0 A0 (C9 A0 A0) ?_;exact lA
 refine I3 ?_;refine B2 (aM A0 A0 b6y) A0 (H3 ?_);refine D1 V9 b1x (D3 (L:=[(820,_),(821,_)]) ⟨rfl,rfl,trivial⟩ b4x) ⟨?_,rfl⟩;rw[C40,C51]
 congr 5
 omega
section
variable (ns:List AL.Node) (w:List Int)
theorem aV:∀f:Nat,(∀i next st st' r,J8 ns w f i next st=some (st',r)->st.length<=st'.length)/\(∀c next st st' r,cB ns w f c next st=some (st',r)->st.length<=st'.length)/\(∀c next s0 st st' r,bP ns w f c next s0 st=some (st',r)->st.length<=st'.length) /\
  (∀b m last next st st' r,aJ ns w f b m last next st=some (st',r)->st.length<=st'.length)/\(∀b m next st st' r,aK ns w f b m next st=some (st',r)->st.length<=st'.length)
 | 0=>⟨(fun _ _ _ _ _ h=>by cases h),(fun _ _ _ _ _ h=>by cases h),(fun _ _ _ _ _ _ h=>by cases h),(fun _ _ _ _ _ _ _ h=>by cases h),(fun _ _ _ _ _ _ h=>by cases h)⟩
 | f + 1=>by
  obtain⟨d,n,l,o,j⟩:=aV f;refine⟨fun i next st st' r h=>?_,fun c next st st' r h=>?_,fun c next s0 st st' r h=>?_,fun b m last next st st' r h=>?_,fun b m next st st' r h=>?_⟩
  ·rw[J8]at h;dsimp only at h;split at h
   ·cases h;exact C45 _
   split at h
   ·cases h;simp
   split at h
   ·cases h;simp
   split at h
   ·cases h;simp
   split at h
   ·exact n _ _ _ _ _ h
   split at h
   ·split at h
    ·cases h
    ·split at h
     ·cases h
     ·rename_i a;exact C82 (d _ _ _ _ _ a) (l _ _ _ _ _ _ h)
   split at h
   ·split at h
    ·split at h
     ·cases h
     ·rename_i a;have g:=d _ _ _ _ _ a;have e:=j _ _ _ _ _ _ h;rw[C40,C51]at g;rw[C78]at e;omega
    ·split at h
     ·cases h
     ·rename_i a;exact C82 (o _ _ _ _ _ _ _ a) (j _ _ _ _ _ _ h)
   ·cases h;exact C45 _
  ·cases c with
   | nil=>rw[cB]at h;cases h;exact C45 _
   | cons k c =>
    rw[cB]at h;split at h
    ·cases h
    ·rename_i a;exact C82 (d _ _ _ _ _ a) (n _ _ _ _ _ h)
  ·cases c with
   | nil=>rw[bP]at h;cases h;exact C45 _
   | cons k c =>
    rw[bP]at h;split at h
    ·cases h
    ·rename_i a;have g:=d _ _ _ _ _ a;have e:=l _ _ _ _ _ _ h;rw[C40,C51]at e;omega
  ·cases m with
   | zero=>rw[aJ]at h;cases h;exact C45 _
   | succ m =>
    rw[aJ]at h;split at h
    ·cases h
    ·rename_i a;have g:=d _ _ _ _ _ a;have e:=o _ _ _ _ _ _ _ h;rw[C40,C51]at e;omega
  ·cases m with
   | zero=>rw[aK]at h;cases h;exact C45 _
   | succ m =>
    rw[aK]at h;split at h
    ·cases h
    ·rename_i a;exact C82 (d _ _ _ _ _ a) (j _ _ _ _ _ _ h)
end
def DW(ns:List AL.Node)(w:List Int)(f:Nat):Prop:=∀(i:Int) (next:Int) (st st':List AL.State) (r:Int),J8 ns w f i next st=some (st',r)->(0<=i/\i<ns.length)->st'.length<=20000 ->
 ∀{gf:Fr} {ob:Obs},B5 ob 820=some (mW ns w)->B5 ob 821=some (cR st)->B5 ob 824=none ->
  AL.Met prog 67 [mX,P7 i,P7 next] gf ob [821,824] (fun a ob'=>a=[P7 r]/\ob'=(820,mW ns w)::(821,cR st')::G8 [821,824] ob)
theorem taker{a:List Int}{j:Nat}{k:Int}(h:a[j]?=some k):(a.take (j+1)).reverse=k::(a.take j).reverse:=by
 rw[C52,h,C53,List.reverse_append];rfl
theorem HC{p:Prop}(h:p:=by repeat (first | exact O3 | refine U3 rfl ?_ | refine H7 (by assumption) ?_ | refine WJ _ rfl ?_ | refine A81 (by assumption) ?_)):p:=h
theorem kT{p:Prop}(h:p:=by repeat (first | exact Z6 | refine tail_drop rfl ?_ | refine Z7 rfl ?_ | refine qL _ rfl ?_)):p:=h
theorem WT{ns:List AL.Node}{w:List Int}{F:Nat}(IH:∀g,g<=F->DW ns w g)(d:List Int)(next:Int)(st st1 st':List AL.State)(s0 r k:Int)(m:List Int)(H:d.reverse=k::m)(A:∀k∈d,0<=k/\k<ns.length)(hkl:d.length<=4000)(hb:J8 ns w F k next st=some (st1,s0))(ha:bP ns w F m next s0 st1=some (st',r))(hl:st'.length<=20000)
  {gf:Fr}{ob:Obs}(R:B5 ob 820=some (mW ns w))(S:B5 ob 821=some (cR st))(T:B5 ob 824=none) :
  AL.Met prog 109 [mX,.one (.p (.list Int 1 C7 d)),P7 next] gf ob [821,824] (fun Z ob'=>Z=[P7 r]/\ob'=(820,mW ns w)::(821,cR st')::G8 [821,824] ob):=by
 have Q:d.length=m.length+1:=by have:=congrArg List.length H;rwa[D14,C46]at this
 have J:m=(d.take m.length).reverse:=by
  have D:d=m.reverse++[k]:=by rw[<-List.reverse_reverse d,H,List.reverse_cons]
  rw[D,List.take_append_of_le_length dV,C83 dV,List.reverse_reverse]
 have K:d[(((d.length:Nat):Int)-1).toNat]?=some k:=by
  have D:d=m.reverse++[k]:=by rw[<-List.reverse_reverse d,H,List.reverse_cons]
  rw[show (((d.length:Nat):Int)-1).toNat=m.reverse.length by rw[D14];omega,D];exact List.getElem?_concat_length
 have Y:=(aV ns w F).2.2.1 _ _ _ _ _ _ ha;refine AL.Met.introH Tryz.func109 F1 rfl rfl rfl (fun B=>?_);refine C3 (C05 821 (l:=[(0,.s mX),(1,B8 Int 1 C7 d),(2,.s (P7 next))]) (L:=[(820,_),(821,_)]) lf B J6 ⟨R,S,trivial⟩) ?_;refine C3 (Sees.forget 824) ?_;have z:B5 (G8 [821,824] ob) 824=none:=d9 T;refine C3 (C04 (gf':=B4 [821,824] gf) (l:=[(0,.s mX),(1,B8 Int 1 C7 d),(2,.s (P7 next))]) (ob':=[(820,mW ns w),(821,cR st)]++G8 [821,824] ob) lf (B0 B) kT (D3 (L:=[(820,_),(821,_)]) ⟨rfl,rfl,trivial⟩ PG)) ?_;refine zz 19 ?_;refine O4 (IH F (C45 _) k next st st1 s0 hb (A k (C60 K)) B1 A0 A0 z) A0 A0 A0 (O6 ?_);refine B9 (X:=Nat×Nat×Int×List AL.State) (fun x=>([(0,.s mX),(1,B8 Int 1 C7 d),(2,.s (P7 next)),(8,B6 x.2.2.1),(9,B6 ((x.2.1:Int)-1))]++B4 [821,824] gf,[(820,mW ns w),(821,cR x.2.2.2)]++G8 [821,824] ob)) (fun x=>x.1<=F/\x.2.1<=m.length/\bP ns w x.1 (d.take x.2.1).reverse next x.2.2.1 x.2.2.2=some (st',r)) (fun x=>x.2.1) (F,m.length,s0,st1) ⟨C45 _,C45 _,by dsimp only;rw[<-J];exact ha⟩ ?_ ?_
 ·dsimp only;rw[show ((m.length:Int)-1)=((d.length:Int)-1-1) by omega];exact C04 lf (B0 B) kT (D3 (L:=[(820,_),(821,_)]) ⟨rfl,rfl,trivial⟩ HC)
 rintro⟨f,c,s1,sx⟩ ⟨W,U,h⟩;dsimp only at W U h ⊢;refine zc 6 (fun O=>?_) fun O=>?_;rotate_left
 ·have E:c=0:=by have:=A3 O;omega
  subst E;have G:f≠0:=fun e=>by rw[e]at h;cases h
  obtain⟨f,rfl⟩:∃g,f=g+1:=⟨f-1,by omega⟩
  rw[C79,List.reverse_nil,bP]at h;cases h;refine I3 ?_;exact D1 V9 kT (D3 (L:=[(820,_),(821,_)]) ⟨rfl,rfl,trivial⟩ HC) ⟨rfl,rfl⟩
 have V:0<c:=by have:=A1 O;omega
 obtain⟨c,rfl⟩:∃g,c=g+1:=⟨c-1,by omega⟩
 obtain⟨u,I⟩:∃u,u=d[c]'B1:=⟨_,rfl⟩
 have j:d[c]?=some u:=by rw[I];exact C36 B1
 have P:d[(((c+1:Nat):Int)-1).toNat]?=some u:=by rw[show (((c+1:Nat):Int)-1).toNat=c by omega];exact j
 rw[taker j]at h;have G:f≠0:=fun e=>by rw[e]at h;cases h
 obtain⟨f,rfl⟩:∃g,f=g+1:=⟨f-1,by omega⟩
 rw[bP]at h;cases q:J8 ns w f u next sx with
 | none=>rw[q]at h;cases h
 | some y =>
  obtain⟨C,b⟩:=y;rw[q]at h;dsimp only at h;have M:=(aV ns w f).2.2.1 _ _ _ _ _ _ h;rw[C40,C51]at M;refine V7 ?_;refine O4 (IH f B1 u next sx C b q (A u (C60 j)) B1 A0 A0 z) A0 A0 A0 (F5 ?_);refine O4 (dK C ⟨1,⟨0,0,0,0⟩,b,s1⟩ B1 A0 A0) A0 A0 A0 (I3 ?_);refine⟨(f,c,(C.length:Int),C++[⟨1,⟨0,0,0,0⟩,b,s1⟩]),⟨by dsimp only;omega,by dsimp only;omega,h⟩,by dsimp only;omega,?_⟩;dsimp only;rw[show ((c:Int)-1)=(((c+1:Nat):Int)-1-1) by omega];exact C04 lf (B0 B) kT (D3 (L:=[(820,_),(821,_)]) ⟨rfl,rfl,trivial⟩ HC)
theorem RP{ns:List AL.Node}{w:List Int}{F:Nat}(IH:∀g,g<=F->DW ns w g)(n:AL.Node)(d next:Int)(st p A st':List AL.State)(q M r:Int)(ad:n.Kids[(0:Int).toNat]?=some d)(E:0<=d/\d<ns.length)(ac:0<=n.Min/\n.Min<=100/\(n.Max = -1\/n.Min<=n.Max/\n.Max<=100))
  (W:n.Max<0->∃z a,J8 ns w F d st.length (st++[⟨1,⟨0,0,0,0⟩,0,next⟩])=some (z,a)/\p=z.set st.length { (z.getD st.length V8) with Next:=a }/\q=st.length)(V:¬n.Max<0->p=st/\q=next)
  (K:aJ ns w F d (n.Max-n.Min).toNat q q p=some (A,M))(J:aK ns w F d n.Min.toNat M A=some (st',r))(hl:st'.length<=20000)
  {gf:Fr}{ob:Obs}(h0:B5 ob 820=some (mW ns w))(h1:B5 ob 821=some (cR st))(h2:B5 ob 824=none) :
  AL.Met prog 110 [mX,(bY n).s1,P7 next] gf ob [821,824] (fun rs ob'=>rs=[P7 r]/\ob'=(820,mW ns w)::(821,cR st')::G8 [821,824] ob):=by
 have ae:=(aV ns w F).2.2.2.2 _ _ _ _ _ _ J;have Y:=(aV ns w F).2.2.2.1 _ _ _ _ _ _ _ K;refine AL.Met.introH Tryz.func110 F1 rfl rfl rfl (fun u=>?_);refine C3 (C05 821 (l:=[(0,.s mX),(1,.s (bY n).s1),(2,.s (P7 next))]) (L:=[(820,_),(821,_)]) lf u J6 ⟨h0,h1,trivial⟩) ?_;refine C3 (Sees.forget 824) ?_;have C:B5 (G8 [821,824] ob) 824=none:=d9 h2;refine C3 (C04 (gf':=B4 [821,824] gf) (l:=[(0,.s mX),(1,.s (bY n).s1),(2,.s (P7 next))]) (ob':=[(820,mW ns w),(821,cR st)]++G8 [821,824] ob) lf (B0 u) kT (D3 (L:=[(820,_),(821,_)]) ⟨rfl,rfl,trivial⟩ PG)) ?_;refine zz 20 ?_;refine U9 ([(0,.s mX),(2,B6 q),(4,.s (.one (.eref Unit 8 (fun _ j=>(cellsOf P5 n 0 8).getD j (.v undef)) () 0))),(7,B6 d)]++B4 [821,824] gf) ([(820,mW ns w),(821,cR p)]++G8 [821,824] ob) ?_ ?_
 ·skip;refine zc 0 (fun m=>?_) fun m=>?_
  ·obtain⟨z,a,H,O,P⟩:=W (A1 m);subst O P;have Z:=(aV ns w F).1 _ _ _ _ _ H;rw[C40,C51]at Z;rw[C78]at Y;refine I2 ?_;refine O4 (dK st ⟨1,⟨0,0,0,0⟩,0,next⟩ B1 A0 A0) A0 A0 A0 (H3 ?_);have U:B5 (Obs.forget 821 (G8 [821,824] ob)) 824=none:=by rw[K3,C];rfl
   refine P1 ?_;refine O4 (IH F (C45 _) d st.length (st++[⟨1,⟨0,0,0,0⟩,0,next⟩]) z a H E B1 A0 A0 U) A0 A0 A0 (H3 ?_);have ab:z[((st.length:Nat):Int).toNat]?=some (z.getD st.length V8):=by
    rw[C37,C38,C36 B1];rfl
   refine C3 (C04 (gf':=B4 [821,824] gf) (l:=[(0,.s mX),(4,.s (.one (.eref Unit 8 (fun _ j=>(cellsOf P5 n 0 8).getD j (.v undef)) () 0))),(7,B6 d),(8,B6 st.length),(9,B6 a)]) (ob':=[(820,mW ns w),(821,cR z)]++G8 [821,824] ob) lf (B0 u) kT (D3 (L:=[(820,_),(821,_)]) ⟨rfl,rfl,trivial⟩ HC)) ?_;refine R3 ?_;refine B2 (LR A0) A0 (U0 (dH ({ (z.getD st.length V8) with Next:=a }) TySz.out A0 A0 ab A0 A0 A0 A0 (fun _ _ _ h=>cL h) (by intro j h1 h2;rcases j with _ | _ | _ | _ | _ | _ | _ | j<;>first | rfl | omega)) ?_);refine I2 ?_;exact C04 lf (B0 u) kT (D3 (L:=[(820,_),(821,_)]) ⟨rfl,rfl,trivial⟩ HC)
  ·obtain⟨O,P⟩:=V (A3 m);subst O P;refine G5 ?_;exact C04 lf (B0 u) kT (D3 (L:=[(820,_),(821,_)]) ⟨rfl,rfl,trivial⟩ HC)
 refine zz 16 ?_;refine B9 (X:=Nat×Nat×Int×List AL.State) (fun x=>([(0,.s mX),(2,B6 x.2.2.1),(4,.s (.one (.eref Unit 8 (fun _ j=>(cellsOf P5 n 0 8).getD j (.v undef)) () 0))),(7,B6 d),(10,B6 q),(40,B6 (n.Max-n.Min)),(41,B6 (((n.Max-n.Min).toNat:Int)-x.2.1))]++B4 [821,824] gf,[(820,mW ns w),(821,cR x.2.2.2)]++G8 [821,824] ob)) (fun x=>x.1<=F/\x.2.1<=(n.Max-n.Min).toNat/\aJ ns w x.1 d x.2.1 q x.2.2.1 x.2.2.2=some (A,M)) (fun x=>x.2.1) (F,(n.Max-n.Min).toNat,q,p) ⟨C45 _,C45 _,K⟩ ?_ ?_
 ·dsimp only;rw[Int.sub_self];exact C04 lf (B0 u) kT (D3 (L:=[(820,_),(821,_)]) ⟨rfl,rfl,trivial⟩ HC)
 rintro⟨f,c,s1,sx⟩ ⟨S,Q,i⟩;dsimp only at S Q i ⊢;have T:f≠0:=fun e=>by rw[e]at i;cases i
 obtain⟨f,rfl⟩:∃g,f=g+1:=⟨f-1,by omega⟩
 refine zc 5 (fun m=>?_) fun m=>?_
 ·have R:0<c:=by have:=A1 m;omega
  obtain⟨c,rfl⟩:∃g,c=g+1:=⟨c-1,by omega⟩
  rw[aJ]at i;cases k:J8 ns w f d s1 sx with
  | none=>rw[k]at i;cases i
  | some y =>
   obtain⟨G,b⟩:=y;rw[k]at i;dsimp only at i;have I:=(aV ns w f).2.2.2.1 _ _ _ _ _ _ _ i;rw[C40,C51]at I;refine R3 ?_;refine O4 (IH f B1 d s1 sx G b k E B1 A0 A0 C) A0 A0 A0 (F5 ?_);refine O4 (dK G ⟨1,⟨0,0,0,0⟩,b,q⟩ B1 A0 A0) A0 A0 A0 (J0 ?_);refine⟨(f,c,(G.length:Int),G++[⟨1,⟨0,0,0,0⟩,b,q⟩]),⟨by dsimp only;omega,by dsimp only;omega,i⟩,by dsimp only;omega,?_⟩;dsimp only;rw[show (((n.Max-n.Min).toNat:Int)-(c:Int))=((n.Max-n.Min).toNat:Int)-((c+1:Nat):Int)+1 by omega];exact C04 lf (B0 u) kT (D3 (L:=[(820,_),(821,_)]) ⟨rfl,rfl,trivial⟩ HC)
 have B:c=0:=by have:=A3 m;omega
 subst B;rw[aJ]at i;cases i;refine Z2 ?_;refine B9 (X:=Nat×Nat×Int×List AL.State) (fun x=>([(0,.s mX),(2,B6 x.2.2.1),(7,B6 d),(53,B6 n.Min),(54,B6 (n.Min-x.2.1))]++B4 [821,824] gf,[(820,mW ns w),(821,cR x.2.2.2)]++G8 [821,824] ob)) (fun x=>x.1<=F/\x.2.1<=n.Min.toNat/\aK ns w x.1 d x.2.1 x.2.2.1 x.2.2.2=some (st',r)) (fun x=>x.2.1) (F,n.Min.toNat,M,A) ⟨C45 _,C45 _,J⟩ ?_ ?_
 ·dsimp only;rw[show n.Min-(n.Min.toNat:Int)=0 by omega];exact C04 lf (B0 u) kT (D3 (L:=[(820,_),(821,_)]) ⟨rfl,rfl,trivial⟩ HC)
 rintro⟨f,c,s1,sx⟩ ⟨S,Q,i⟩;dsimp only at S Q i ⊢;have T:f≠0:=fun e=>by rw[e]at i;cases i
 obtain⟨f,rfl⟩:∃g,f=g+1:=⟨f-1,by omega⟩
 refine zc 5 (fun m=>?_) fun m=>?_
 ·have R:0<c:=by have:=A1 m;omega
  obtain⟨c,rfl⟩:∃g,c=g+1:=⟨c-1,by omega⟩
  rw[aK]at i;cases k:J8 ns w f d s1 sx with
  | none=>rw[k]at i;cases i
  | some y =>
   obtain⟨G,b⟩:=y;rw[k]at i;dsimp only at i;have I:=(aV ns w f).2.2.2.2 _ _ _ _ _ _ i;refine I3 ?_;refine O4 (IH f B1 d s1 sx G b k E B1 A0 A0 C) A0 A0 A0 (J0 ?_);refine⟨(f,c,b,G),⟨by dsimp only;omega,by dsimp only;omega,i⟩,by dsimp only;omega,?_⟩;dsimp only;rw[show (n.Min-(c:Int))=n.Min-((c+1:Nat):Int)+1 by omega];exact C04 lf (B0 u) kT (D3 (L:=[(820,_),(821,_)]) ⟨rfl,rfl,trivial⟩ HC)
 have B:c=0:=by have:=A3 m;omega
 subst B;rw[aK]at i;cases i;refine I3 ?_;exact D1 V9 kT (D3 (L:=[(820,_),(821,_)]) ⟨rfl,rfl,trivial⟩ HC) ⟨rfl,rfl⟩
theorem WU{ns:List AL.Node}{w:List Int}{F:Nat}(hc:fN ns=0)(hkl:∀n∈ns,n.Kids.length<=4000)(az:w.length=ns.length)(IH:∀g,g<=F->DW ns w g):DW ns w (F+1):=by
 obtain⟨aw,ax,P⟩:=o3 hc;intro i next st st' r d hi S gf ob h0 h1 h2;obtain⟨n,hn⟩:∃n,n=ns[i.toNat]'B1:=⟨_,rfl⟩
 have hv:ns[i.toNat]?=some n:=by rw[hn];exact C36 B1
 obtain⟨ak,hX⟩:=bK (P i.toNat n hv);have I:∀k∈n.Kids,0<=k/\k<ns.length:=fun k hk=>by have:=ak k hk;omega
 have al:=hkl n (C60 hv);have af:ns.getD i.toNat K8=n:=by rw[C38,hv];rfl
 have ba:w[i.toNat]?=some (I0 w i.toNat):=by unfold I0;rw[C36 B1];rfl
 have ap:=(aV ns w (F+1)).1 _ _ _ _ _ d;rw[J8,af]at d;dsimp only at d;refine AL.Met.introH Tryz.func67 F1 rfl rfl rfl (fun O=>?_);refine C3 (C05 821 (l:=[(0,.s mX),(1,.s (P7 i)),(2,.s (P7 next))]) (L:=[(820,_),(821,_)]) lf O J6 ⟨h0,h1,trivial⟩) ?_;refine C3 (Sees.forget 824) ?_;have C:B5 (G8 [821,824] ob) 824=none:=d9 h2;refine C3 (C04 (gf':=B4 [821,824] gf) (l:=[(0,.s mX),(1,.s (P7 i)),(2,.s (P7 next))]) (ob':=[(820,mW ns w),(821,cR st)]++G8 [821,824] ob) lf (B0 O) kT (D3 (L:=[(820,_),(821,_)]) ⟨rfl,rfl,trivial⟩ PG)) ?_;refine zc 16 (fun p=>?_) fun p=>?_
 ·rw[A6 (A1 p)]at d;cases d;refine J0 ?_;exact D1 V9 kT (D3 (L:=[(820,_),(821,_)]) ⟨rfl,rfl,trivial⟩ HC) ⟨rfl,rfl⟩
 rw[A7 (A3 p)]at d;refine O6 ?_;refine C2 (fY 824 C F1) A0 (F5 ?_);refine C3 (C24 (t:=7) (k:=824) (cs:=cellsOf P5 n 0 8) A0 A0 A0 A0) (C3 (C04 (gf':=B4 [821,824] gf) (l:=[(0,.s mX),(1,.s (P7 i)),(2,.s (P7 next)),(7,.s (.one (.eref Unit 8 (fun _ j=>(cellsOf P5 n 0 8).getD j (.v undef)) () 0)))]) (ob':=[(820,mW ns w),(821,cR st)]++G8 [821,824] ob) lf (B0 O) kT (D3 (L:=[(820,_),(821,_)]) ⟨rfl,rfl,trivial⟩ HC)) ?_);refine zc 12 (fun p=>?_) fun p=>?_
 ·have z:=A1 p;rw[A6 z]at d;cases d;refine I3 ?_;refine CC (dK st ⟨0,n.Set,next,0⟩ (by simp only[C40,C51]at S;omega) A0 A0) A0 A0 A0 ?_;rintro _ _ ⟨rfl,rfl⟩;refine H3 ?_;exact D1 V9 kT (D3 (L:=[(820,_),(821,_)]) ⟨rfl,rfl,trivial⟩ HC) ⟨rfl,rfl⟩
 have V:=A3 p;rw[A7 V]at d;refine zc 5 (fun p=>?_) fun p=>?_
 ·have z:=A1 p;rw[A6 z]at d;cases d;refine I2 ?_;refine CC (dK st ⟨2,⟨0,0,0,0⟩,next,0⟩ (by simp only[C40,C51]at S;omega) A0 A0) A0 A0 A0 ?_;rintro _ _ ⟨rfl,rfl⟩;refine H3 ?_;exact D1 V9 kT (D3 (L:=[(820,_),(821,_)]) ⟨rfl,rfl,trivial⟩ HC) ⟨rfl,rfl⟩
 have W:=A3 p;rw[A7 W]at d;refine zc 5 (fun p=>?_) fun p=>?_
 ·have z:=A1 p;rw[A6 z]at d;cases d;refine I2 ?_;refine CC (dK st ⟨3,⟨0,0,0,0⟩,next,0⟩ (by simp only[C40,C51]at S;omega) A0 A0) A0 A0 A0 ?_;rintro _ _ ⟨rfl,rfl⟩;refine H3 ?_;exact D1 V9 kT (D3 (L:=[(820,_),(821,_)]) ⟨rfl,rfl,trivial⟩ HC) ⟨rfl,rfl⟩
 have Y:=A3 p;rw[A7 Y]at d;refine zc 5 (fun p=>?_) fun p=>?_
 ·have z:=A1 p;rw[A6 z]at d;refine Z2 ?_;refine B9 (X:=Nat×Nat×Int×List AL.State) (fun x=>([(0,.s mX),(2,B6 x.2.2.1),(7,.s (.one (.eref Unit 8 (fun _ j=>(cellsOf P5 n 0 8).getD j (.v undef)) () 0))),(8,B6 ((x.2.1:Int)-1))]++B4 [821,824] gf,[(820,mW ns w),(821,cR x.2.2.2)]++G8 [821,824] ob)) (fun x=>x.1<=F/\x.2.1<=n.Kids.length/\cB ns w x.1 (n.Kids.take x.2.1).reverse x.2.2.1 x.2.2.2=some (st',r)) (fun x=>x.2.1) (F,n.Kids.length,next,st) ⟨C45 _,C45 _,by dsimp only;rw[C48];exact d⟩ ?_ ?_
  ·exact C04 lf (B0 O) kT (D3 (L:=[(820,_),(821,_)]) ⟨rfl,rfl,trivial⟩ HC)
  rintro⟨f,c,s1,sx⟩ ⟨hf,ad,u⟩;dsimp only at hf ad u ⊢;have av:f≠0:=fun e=>by rw[e]at u;cases u
  obtain⟨f,rfl⟩:∃g,f=g+1:=⟨f-1,by omega⟩
  refine zc 6 (fun p=>?_) fun p=>?_
  ·have au:0<c:=by have:=A1 p;omega
   obtain⟨c,rfl⟩:∃g,c=g+1:=⟨c-1,by omega⟩
   obtain⟨J,ai⟩:∃J,J=n.Kids[c]'B1:=⟨_,rfl⟩
   have A:n.Kids[c]?=some J:=by rw[ai];exact C36 B1
   have ar:n.Kids[(((c+1:Nat):Int)-1).toNat]?=some J:=by rw[show (((c+1:Nat):Int)-1).toNat=c by omega];exact A
   rw[taker A,cB]at u;cases m:J8 ns w f J s1 sx with
   | none=>rw[m]at u;cases u
   | some y =>
    obtain⟨sy,b⟩:=y;rw[m]at u;dsimp only at u;have ay:=(aV ns w f).2.1 _ _ _ _ _ u;refine V7 ?_;refine O4 (IH f B1 J s1 sx sy b m (I J (C60 A)) B1 A0 A0 C) A0 A0 A0 (I3 ?_);refine⟨(f,c,b,sy),⟨by dsimp only;omega,by dsimp only;omega,u⟩,by dsimp only;omega,?_⟩;dsimp only;rw[show ((c:Int)-1)=(((c+1:Nat):Int)-1-1) by omega];exact C04 lf (B0 O) kT (D3 (L:=[(820,_),(821,_)]) ⟨rfl,rfl,trivial⟩ HC)
  have ae:c=0:=by have:=A3 p;omega
  subst ae;rw[C79,List.reverse_nil,cB]at u;cases u;refine I3 ?_;exact D1 V9 kT (D3 (L:=[(820,_),(821,_)]) ⟨rfl,rfl,trivial⟩ HC) ⟨rfl,rfl⟩
 have Z:=A3 p;rw[A7 Z]at d;refine zc 5 (fun p=>?_) fun p=>?_
 ·have z:=A1 p;rw[A6 z]at d;cases H:n.Kids.reverse with
  | nil=>rw[H]at d;cases d
  | cons k kr =>
   rw[H]at d;dsimp only at d;cases m:J8 ns w F k next st with
   | none=>rw[m]at d;cases d
   | some y =>
    obtain⟨st1,s0⟩:=y;rw[m]at d;dsimp only at d;refine J0 ?_;refine O4 (WT IH n.Kids next st st1 st' s0 r k kr H I al m d S A0 A0 C) A0 A0 A0 (H3 ?_);exact D1 V9 kT (D3 (L:=[(820,_),(821,_)]) ⟨rfl,rfl,trivial⟩ HC) ⟨rfl,rfl⟩
 have ab:=A3 p;rw[A7 ab]at d;refine zc 5 (fun p=>?_) fun p=>?_
 ·have z:=A1 p;rw[A6 z]at d;obtain⟨ah,an⟩:n.Kids.length=1/\0<=n.Min/\n.Min<=100/\(n.Max = -1\/n.Min<=n.Max/\n.Max<=100):=by omega
  obtain⟨q,G⟩:∃q,n.Kids=[q]:=by
   match hq:n.Kids,ah with
   | [q],_=>exact⟨q,rfl⟩
  have aj:n.Kids.getD 0 0=q:=by rw[G];rfl
  have Q:n.Kids[(0:Int).toNat]?=some q:=by rw[G];rfl
  have R:=I q (C60 Q);rw[aj]at d;obtain⟨B,K,E,U,am,ag,aq,ao⟩:∃(B:List AL.State) (K:Int) (E:List AL.State) (U:Int),(n.Max<0->∃M a,J8 ns w F q st.length (st++[⟨1,⟨0,0,0,0⟩,0,next⟩])=some (M,a)/\B=M.set st.length { (M.getD st.length V8) with Next:=a }/\K=st.length)/\(¬n.Max<0->B=st/\K=next)/\aJ ns w F q (n.Max-n.Min).toNat K K B=some (E,U)/\aK ns w F q n.Min.toNat U E=some (st',r):=by
   by_cases T:n.Max<0
   ·rw[A6 T]at d;cases m:J8 ns w F q st.length (st++[⟨1,⟨0,0,0,0⟩,0,next⟩]) with
    | none=>erw [m]at d;cases d
    | some y =>
     obtain⟨M,a⟩:=y
     erw [m]at d
     dsimp only at d;have hF:F≠0:=fun e=>by rw[e]at m;cases m
     obtain⟨F',rfl⟩:∃g,F=g+1:=⟨F-1,by omega⟩
     refine⟨_,_,_,_,fun _=>⟨M,a,rfl,rfl,rfl⟩,fun h=>absurd T h,?_,d⟩;rw[show (n.Max-n.Min).toNat=0 by omega];rfl
   ·rw[A7 T]at d;cases m:aJ ns w F q (n.Max-n.Min).toNat next next st with
    | none=>rw[m]at d;cases d
    | some y =>
     obtain⟨M,a⟩:=y;rw[m]at d;dsimp only at d;exact⟨_,_,_,_,fun h=>absurd h T,fun _=>⟨rfl,rfl⟩,m,d⟩
  refine I2 ?_;refine O4 (RP IH n q next st B E st' K U r Q R an am ag aq ao S A0 A0 C) A0 A0 A0 (H3 ?_);exact D1 V9 kT (D3 (L:=[(820,_),(821,_)]) ⟨rfl,rfl,trivial⟩ HC) ⟨rfl,rfl⟩
 have ac:=A3 p;rw[A7 ac]at d;cases d;refine I3 ?_;exact D1 V9 kT (D3 (L:=[(820,_),(821,_)]) ⟨rfl,rfl,trivial⟩ HC) ⟨rfl,rfl⟩
theorem tL{ns:List AL.Node}{w:List Int}(b:fN ns=0)(hkl:∀n∈ns,n.Kids.length<=4000)(a:w.length=ns.length):∀F,∀g,g<=F->DW ns w g
 | 0,g,hg=>by
  obtain rfl:g=0:=by omega
  intro i next st st' r c;cases c
 | F+1,g,hg=>by
  rcases Nat.lt_or_ge g (F+1) with h | h
  ·exact tL b hkl a F g B1
  ·obtain rfl:g=F+1:=by omega
   exact WU b hkl a (tL b hkl a F)
abbrev mY:PV:=.agg [.v (.slice none 0 0),.v (.int .i64 0)]
theorem DX(L:List AL.Node)(st:List AL.State)(r:Int)(F:Nat)(b:fN L=0)(hkl:∀n∈L,n.Kids.length<=4000)(p:rQ L<=4000)(hb:J8 L (E9 L) F ((L.length:Int)-1) 0 [⟨4,⟨0,0,0,0⟩,0,0⟩]=some (st,r))(d:st.length<=20000) :
  FnOk prog 36 [P8 L] (fun rs=>rs=[lQ ⟨st,r⟩,C8 0]):=by
 obtain⟨i,j,m⟩:=o3 b;have f:(E9 L).length=L.length:=by rw[<-mU];exact qO L _
 refine FnOk.intro Tryz.func36 F1 A0 A0 A0 A0 (F5 ?_);refine C2 (H9 2 A0) A0 (I2 ?_);refine E2 (zL L b hkl) ?_;refine zc 14 (fun a=>?_) fun a=>?_
 ·cases a
 refine zc 6 (fun a=>?_) fun a=>?_
 ·have:=A1 a;omega
 refine I2 ?_;refine E2 (zK L b hkl) (G5 ?_);refine C2 (w9 820 A0 A0 A0) A0 (F5 ?_);refine C3 (C10 821 AL.State 7 iM 121 (kb:=820) (o:=2) A0 A0 A0) (P1 ?_);refine O4 (dK [] ⟨4,⟨0,0,0,0⟩,0,0⟩ F1 A0 A0) A0 A0 A0 (Z2 ?_);refine O4 (tL b hkl f F F (C45 _) ((L.length:Int)-1) 0 [⟨4,⟨0,0,0,0⟩,0,0⟩] st r hb ⟨by omega,by omega⟩ d A0 A0 A0) A0 A0 A0 (zz 13 ?_);refine C3 (Sees.freezeG (k:=821) (α:=AL.State) (ec:=7) (c:=iM) (xs:=st) (e:=121) A0 A0) (k10 ?_);exact A9 (rs:=[lQ ⟨st,r⟩,C8 0]) (BV rfl rfl rfl rfl rfl rfl rfl) rfl
theorem WV(L:List AL.Node)(b:fN L=0)(hkl:∀n∈L,n.Kids.length<=4000)(c:rQ L>4000):FnOk prog 36 [P8 L] (fun rs=>rs=[mY,C8 1]):=by
 refine FnOk.intro Tryz.func36 F1 A0 A0 A0 A0 (F5 ?_);refine C2 (H9 2 A0) A0 (I2 ?_);refine E2 (zL L b hkl) ?_;refine zc 14 (fun a=>?_) fun a=>?_
 ·cases a
 refine zc 6 (fun a=>?_) fun a=>?_;rotate_left
 ·have:=A3 a;omega
 refine I3 ?_;exact A9 (rs:=[mY,C8 1]) (BV rfl rfl rfl rfl rfl rfl rfl) rfl
theorem zO(p:Str)(L:List AL.Node)(A:AL.Auto)(b:FnOk prog 35 [F6 p] (fun rs=>rs=[P8 L,C8 0]))(hb:FnOk prog 36 [P8 L] (fun rs=>rs=[lQ A,C8 0])) :
  FnOk prog 21 [F6 p] (fun rs=>rs=[lQ A,C8 0]):=by
 refine FnOk.intro Tryz.func21 F1 A0 A0 A0 A0 (F5 ?_);refine C2 (H9 2 A0) A0 (I2 ?_);refine E2 (b) ?_;refine zc 12 (fun a=>?_) fun a=>?_
 ·cases a
 refine P1 ?_;refine E2 (hb) (J0 ?_);exact A9 (rs:=[lQ A,C8 0]) (BV rfl rfl rfl rfl rfl rfl rfl) rfl
theorem pF{x:Int}(l:0<=x/\x<18446744073709551616)(c:Nat):IntKind.u64.wrap ((BitVec.ofInt IntKind.u64.bits x ||| BitVec.ofInt IntKind.u64.bits (IntKind.u64.wrap (1*2 ^ (min ((c:Int).tmod 64).toNat IntKind.u64.bits)))).toNat:Int)=KZ x (2 ^ (c % 64)):=by
 obtain⟨p,f⟩:∃p:Nat,p=2 ^ (c % 64):=⟨_,rfl⟩
 have e:p<2 ^ 64:=by rw[f];exact Nat.pow_lt_pow_right F1 (Nat.mod_lt _ F1)
 have k:p<18446744073709551616:=e;have g:((2:Int) ^ (c % 64))=(p:Int):=by rw[f];simp
 have h:IntKind.u64.wrap (1*2 ^ (c % 64))=(p:Int):=by
  rw[Int.one_mul,g];exact YL ⟨by omega,by omega⟩
 rw[A37,h,g];have b:=Nat.or_lt_two_pow (x:=x.toNat) (y:=p) (n:=64) (show x.toNat<18446744073709551616 by omega) e;have j:x.toNat ||| p<18446744073709551616:=b;have i:(BitVec.ofInt IntKind.u64.bits x ||| BitVec.ofInt IntKind.u64.bits (p:Int)).toNat=x.toNat ||| p:=by
  rw[BitVec.toNat_or,BitVec.toNat_ofInt,BitVec.toNat_ofInt,show ((2 ^ IntKind.u64.bits:Nat):Int)=18446744073709551616 by rfl];rw[show (x % 18446744073709551616).toNat=x.toNat by omega,show ((p:Int) % 18446744073709551616).toNat=p by omega]
 rw[i,YL ⟨by omega,by omega⟩];unfold KZ;rw[C37]
theorem b3y{p:Prop}(h:p:=by exact retc rfl rfl rfl rfl rfl):p:=h
theorem vP(z:Set4)(f:O0 z)(c:UInt8):FnOk prog 224 [S9 z,pByte c] (fun rs=>rs=[S9 (z.with_ c.toNat)]):=by
 obtain⟨g,h,z3,z4⟩:=f;have a:c.toNat / 64=0\/c.toNat / 64=1\/c.toNat / 64=2\/c.toNat / 64=3:=by have:=c.toNat_lt;omega
 have e:0<=(c.toNat:Int).tmod 64:=Int.tmod_nonneg _ B1;refine FnOk.intro Tryz.func224 F1 A0 A0 A0 A0 (F5 ?_);refine C2 (w9 2 A0 A0 A0) A0 (C2 (H9 4 A0) A0 (F5 ?_));rcases a with a | a | a | a
 all_goals
  have b:=A36 c.toNat_lt a;refine H3 ?_;refine B2 (V4 A0 A0 (b) F1) A0 (H3 ?_);refine B2 (n_shl A0 A0 (by (exact e))) A0 ?_;refine G5 ?_;refine B2 (V4 A0 A0 (b) F1) A0 (R3 ?_);refine A9 b3y ?_;unfold Set4.with_;rw[a];simp only[pF g,pF h,pF z3,pF z4]
theorem q8:O0 set0:=⟨⟨by decide,by decide⟩,⟨by decide,by decide⟩,⟨by decide,by decide⟩,⟨by decide,by decide⟩⟩
theorem WW{gf:Fr}{ob:Obs}(s:Str)(a d:Nat)(l:List AL.Node)(b:Int)(j:l.length<=1000)(f:B5 ob 810=some (rP s a d))(g:B5 ob 811=some (eR l)) :
  AL.Met prog 106 [H1,P7 b,.one (.p (.list Int 1 C7 []))] gf ob [811] (fun k ob'=>k=[P7 l.length]/\ob'=(810,rP s a d)::(811,eR (l++[K8]))::Obs.forget 811 ob):=by
 refine AL.Met.introH Tryz.func106 F1 rfl rfl rfl (fun h=>?_);refine C3 (C05 811 (l:=[(0,.s H1),(1,.s (P7 b)),(2,B8 Int 1 C7 [])]) (L:=[(810,_),(811,_)]) lf h J6 ⟨f,g,trivial⟩) ?_;refine zc 16 (fun c=>?_) fun c=>?_;rotate_left
 ·exact absurd rfl (A3 c)
 refine P1 ?_;refine gR ((C07 Int 1 C7 12 7 A0 A0)) (O4 (vK s a d l K8 j A0 A0) A0 A0 A0 (H3 ?_));exact D1 V9 b1x (D3 (L:=[(810,_),(811,_)]) ⟨rfl,rfl,trivial⟩ b4x) ⟨rfl,rfl⟩
theorem gD{s:Str}{i:Nat}(h:i<s.length):s[i]?=some (s.getD i 0):=by simp[h]
def qQ(s:Str)(i:Nat):Bool:=decide ((i<s.length/\48<=(s.getD i 0).toNat)/\(s.getD i 0).toNat<=57)
theorem WX(s:Str)(i:Nat):qQ s i=match s[i]? with | some c=>pX c | none=>false:=by
 unfold qQ pX;by_cases h:i<s.length
 ·rw[gD h];simp[h]
 ·rw[C63 B1];simp[h]
theorem digs_le(s:Str)(i:Nat):(N5 (s.drop i)).length<=s.length-i:=by
 unfold N5;have:=(List.takeWhile_sublist pX (l:=s.drop i)).length_le;rw[C61]at this;exact this
theorem vQ{p:UInt8->Bool}:∀(s:Str) (k:Nat),k<=(s.takeWhile p).length->(match s[k]? with | some c=>p c | none=>false)=decide (k<(s.takeWhile p).length)
 | [],k,h=>by simp at h ⊢
 | c::r,0,h=>by by_cases a:p c=true<;>simp[List.takeWhile_cons,a]
 | c::r,k+1,h=>by
  by_cases a:p c=true
  ·rw[List.takeWhile_cons,A6 a,C46]at h ⊢;have:=vQ (p:=p) r k B1;rw[List.getElem?_cons_succ,this];simp
  ·rw[List.takeWhile_cons,A7 a]at h;simp at h
theorem sK{p:UInt8->Bool}:∀(s:Str) (k:Nat),k<(s.takeWhile p).length->s[k]?=(s.takeWhile p)[k]?
 | [],k,h=>by simp at h
 | c::r,k,h=>by
  by_cases a:p c=true
  ·rw[List.takeWhile_cons,A6 a]at h ⊢;cases k with
   | zero=>rfl
   | succ k=>rw[List.getElem?_cons_succ,List.getElem?_cons_succ];exact sK (p:=p) r k (by simpa using h)
  ·rw[List.takeWhile_cons,A7 a]at h;simp at h
theorem xW(s:Str)(i k:Nat)(h:k<=(N5 (s.drop i)).length):qQ s (i+k)=decide (k<(N5 (s.drop i)).length):=by
 rw[WX,<-C66];exact vQ (s.drop i) k h
theorem xX{s:Str}{i k:Nat}(h:k<(N5 (s.drop i)).length):s[i+k]?=some ((N5 (s.drop i)).getD k 0)/\48<=((N5 (s.drop i)).getD k 0).toNat/\((N5 (s.drop i)).getD k 0).toNat<=57 /\
  cA ((N5 (s.drop i)).take (k+1))=10*cA ((N5 (s.drop i)).take k)+(((N5 (s.drop i)).getD k 0).toNat-48):=by
 have d:s[i+k]?=(N5 (s.drop i))[k]?:=by rw[<-C66];exact sK _ _ h
 have c:=gD h;have b:pX ((N5 (s.drop i)).getD k 0)=true:=by
  have m:(N5 (s.drop i)).getD k 0∈(s.drop i).takeWhile pX:=C60 c;exact C47.1 List.all_takeWhile _ m
 unfold pX at b;have b:=A1 b;refine⟨by rw[d,c],b.1,b.2,?_⟩;obtain⟨j,f⟩:=C44.1 c;rw[D08 j,B14,f]
theorem RQ(n:Nat)(h:48<=n)(b:n<=57):IntKind.i64.wrap (IntKind.u8.wrap ((n:Int)-48))=((n-48:Nat):Int):=by
 have:∀k:Fin 10,IntKind.i64.wrap (IntKind.u8.wrap (((k.1+48:Nat):Int)-48))=((k.1:Nat):Int):=by decide
 have a:=this ⟨n-48,by omega⟩;dsimp only at a;rw[show n-48+48=n by omega]at a;exact a
def tM(s:Str)(i:Nat):List PV:=match fE (s.drop i) with
 | none=>[C8 0,C8 0,E1 false]
 | some (n,k)=>[C8 n,C8 ((i+k:Nat):Int),E1 true]
theorem A82{s:Str}{n k:Nat}(h:fE s=some (n,k)):k=(N5 s).length/\n=cA (N5 s)/\0<k/\k<=s.length/\n<=2147483647:=by
 unfold fE at h;split at h
 ·cases h
 ·rename_i a;cases h;have b:N5 s≠[]:=fun e=>a (.inl e);have c:=List.length_pos_iff.2 b;have d:(N5 s).length<=s.length:=by unfold N5;exact (List.takeWhile_sublist pX).length_le
  refine⟨rfl,rfl,c,d,?_⟩;by_cases f:cA (N5 s)<=2147483647
  ·exact f
  ·exact absurd (.inr (.inr B1)) a
theorem JP(s:Str)(i:Nat):FnOk prog 246 [F6 s,C8 i] (fun rs=>rs=[E1 (qQ s i)]):=by
 refine FnOk.intro Tryz.func246 F1 A0 A0 A0 A0 (zz 13 ?_);refine D7 A0 A0 A0 A0 (fun a=>by have b:=a;(try simp at b);rw[a];exact G9 A0 A0 B1 (gD B1)) ?_;refine I2 ?_;refine D7 A0 A0 A0 A0 (fun a=>by have b:=a;(try simp at b);rw[a];exact G9 A0 A0 B1 (gD B1)) ?_;refine I2 ?_;refine A9 M1 ?_;simp only[and_pick];unfold qQ
 congr 4
 congr 1
 simp;omega
theorem b0y{p:Prop}(h:p:=by exact ret3 rfl rfl rfl rfl rfl rfl rfl):p:=h
theorem WY(s:Str)(i:Nat)(Y:i<=s.length)(Z:s.length<=1073741824):FnOk prog 240 [F6 s,C8 i] (fun rs=>rs=tM s i):=by
 obtain⟨b,f⟩:∃b,b=N5 (s.drop i):=⟨_,rfl⟩
 have M:=digs_le s i;have I:=xW s i 0 (C41 _);rw[Nat.add_zero]at I;rw[<-f]at M I;refine FnOk.intro Tryz.func240 F1 A0 A0 A0 A0 (zz 14 ?_);refine D7 A0 A0 A0 A0 (fun u=>by have C:=u;(try simp at C);rw[u];exact I5 (JP s i) A0 A0) ?_;refine H3 ?_;rw[I];refine uI ?_;by_cases P:b.length=0
 ·refine zc 0 (fun j=>?_) fun j=>?_;rotate_left
  ·exfalso;revert j;simp[P]
  refine I3 ?_;refine A9 (rs:=[C8 0,C8 0,E1 false]) b0y ?_;unfold tM fE;rw[<-f,A6 (.inl (List.length_eq_zero_iff.1 P))]
 refine zc 0 (fun j=>?_) fun j=>?_
 ·exfalso;revert j;simp[show 0<b.length by omega]
 refine Z2 ?_;refine B9 (X:=Nat) (fun k=>([(0,P6 s),(1,B6 i),(7,B6 ((min (cA (b.take k)) 2147483648:Nat):Int)),(8,B6 ((i+k:Nat):Int))],[])) (fun k=>k<=b.length) (fun k=>b.length-k) 0 (C41 _) (C1) ?_;intro k R;dsimp only at R ⊢;have w:=xW s i k (by rw[<-f];exact R);rw[<-f]at w;refine I2 ?_;refine E2 (JP s (i+k)) (G5 ?_);rw[w];refine zc 0 (fun j=>?_) fun j=>?_
 ·have A:k<b.length:=A1 j;obtain⟨g1,F,G,H⟩:=xX (s:=s) (i:=i) (k:=k) (by rw[<-f];exact A);rw[<-f]at g1 F G H;obtain⟨c,U⟩:∃c,c=b.getD k 0:=⟨_,rfl⟩
  rw[<-U]at g1 F G H;obtain⟨v,O⟩:∃v,v=min (cA (b.take k)) 2147483648:=⟨_,rfl⟩
  have V:v<=2147483648:=by omega
  have B:min (cA (b.take (k+1))) 2147483648=min (10*v+(c.toNat-48)) 2147483648:=by rw[H];omega
  rw[<-O];have x:=RQ c.toNat F G;refine R3 ?_;refine B2 (G9 A0 A0 B1 g1) A0 (B2 (LP A0 A0) A0 (G5 ?_));refine B2 (Z3 A0 A0 (by (rw[x];omega))) A0 ?_;refine R3 ?_;refine⟨k+1,A,by omega,?_⟩;rw[B];refine Sees.of ⟨⟨_,rfl,.same _⟩,⟨_,rfl,.same _⟩,⟨_,rfl,.eq ?_⟩,⟨_,rfl,.eq ?_⟩,trivial⟩ trivial
  ·rw[x]
   congr 6
   split<;>omega
  ·congr 6
 ·have L:k=b.length:=by have:¬k<b.length:=A3 j;omega
  subst L;rw[C48];have D:i<s.length:=by omega
  refine Z2 ?_;refine D7 A0 A0 A0 A0 (fun u=>by have C:=u;(try simp at C);rw[u];exact G9 A0 A0 B1 (gD D)) ?_;refine P1 ?_;refine K4 A0 A0 A0 (.gd (.val _)) A0 (fun u=>by have C:=u;(try simp at C);obtain⟨y,z⟩:=N0 u;(try rw[y]);(try rw[z]);exact Z3 A0 A0 B1) ?_;refine K4 A0 A0 A0 (.gd (.val _)) A0 (fun u=>by obtain⟨y,z⟩:=N0 u;(try rw[y]);(try rw[z]);exact IM A0 A0) ?_;refine H3 ?_;have K:(s.drop i).head?=some (s.getD i 0):=by rw[List.head?_drop,gD D]
  simp only[and_pick,or_pick];have p:(N5 (s.drop i)=[]\/((s.drop i).head?=some 48/\1<(N5 (s.drop i)).length)\/2147483647<cA (N5 (s.drop i)))↔(2147483647<((min (cA b) 2147483648:Nat):Int)\/(((s.getD i 0).toNat:Int)=48/\(i:Int)+1<((i+b.length:Nat):Int))):=by
   rw[<-f,K];have S:b≠[]:=fun e=>P (by rw[e];rfl);have T:(some (s.getD i 0)=some 48)↔((s.getD i 0).toNat:Int)=48:=by
    rw[Option.some.injEq,<-C89];have:(48:UInt8).toNat=48:=rfl;omega
   simp only[S,false_or,T];omega
  refine zc 0 (fun j=>?_) fun j=>?_
  ·have E:=A1 j;refine I3 ?_;refine A9 (rs:=[C8 0,C8 0,E1 false]) b0y ?_;unfold tM fE;rw[A6 (p.2 (by first | exact E | simpa using E))]
  ·have E:=A3 j;have J:¬(N5 (s.drop i)=[]\/((s.drop i).head?=some 48/\1<(N5 (s.drop i)).length)\/2147483647<cA (N5 (s.drop i))):=fun Q=>E (by first | exact p.1 Q | simpa using p.1 Q);refine O6 ?_;refine A9 (rs:=[C8 ((min (cA b) 2147483648:Nat):Int),C8 ((i+b.length:Nat):Int),E1 true]) b0y ?_;unfold tM fE;rw[A7 J,<-f];have W:cA b<=2147483647:=by
    rw[<-f]at J;by_cases O:cA b<=2147483647
    ·exact O
    ·exact absurd (.inr (.inr B1)) J
   rw[show min (cA b) 2147483648=cA b by omega]
theorem DY(s:Str)(i:Nat)(V:i<=s.length)(W:s.length<=1073741824):FnOk prog 220 [F6 s,C8 i] (fun rs=>rs=tM s i):=by
 obtain⟨b,f⟩:∃b,b=N5 (s.drop i):=⟨_,rfl⟩
 have K:=digs_le s i;rw[<-f]at K;have A:0<b.length->(s.drop i).head?=some (s.getD i 0):=fun h=>by rw[List.head?_drop,gD B1]
 have y:((s.getD i 0).toNat:Int)=48↔s.getD i 0=48:=by
  rw[<-C89];have:(48:UInt8).toNat=48:=rfl;omega
 refine FnOk.intro Tryz.func220 F1 A0 A0 A0 A0 ?_;refine zc 18 (fun m=>?_) fun m=>?_
 ·exfalso;revert m;simp only[or_pick];simp;omega
 refine Z2 ?_;refine B9 (X:=Nat) (fun k=>([(0,P6 s),(1,B6 i),(7,B6 (cA (b.take k):Int)),(8,B6 ((i+k:Nat):Int))],[])) (fun k=>k<=b.length/\cA (b.take k)<=2147483647/\(1<k->s.getD i 0≠48)) (fun k=>b.length-k) 0 ⟨C41 _,by simp[cA],by omega⟩ (C1) ?_;rintro k ⟨M,O,z⟩;dsimp only at M O z ⊢;have q:=xW s i k (by rw[<-f];exact M);rw[<-f]at q;unfold qQ at q;refine O6 ?_;refine D7 A0 A0 A0 A0 (fun v=>by have C:=v;(try simp at C);rw[v];exact G9 A0 A0 B1 (gD B1)) ?_;refine I2 ?_;refine D7 A0 A0 A0 A0 (fun v=>by have C:=v;(try simp at C);rw[v];exact G9 A0 A0 B1 (gD B1)) ?_;refine H3 ?_;simp only[and_pick];have u:decide (((((i+k:Nat):Int)<(s.length:Int))/\(48:Int)<=((s.getD (i+k) 0).toNat:Int))/\((s.getD (i+k) 0).toNat:Int)<=57)=decide (k<b.length):=by
  rw[<-q]
  congr 1
  simp;omega
 refine zc 0 (fun m=>?_) fun m=>?_
 ·have S:=m;have B:k<b.length:=by
   have p:=A1 m;refine A1 (u ▸ ?_);exact A4 (by first | exact p | simpa using p)
  obtain⟨g1,E,F,G⟩:=xX (s:=s) (i:=i) (k:=k) (by rw[<-f];exact B);rw[<-f]at g1 E F G;obtain⟨c,Q⟩:∃c,c=b.getD k 0:=⟨_,rfl⟩
  rw[<-Q]at g1 E F G;have w:=RQ c.toNat E F;have I:i<s.length:=by omega
  refine V7 ?_;refine D7 A0 A0 A0 A0 (fun v=>by have C:=v;(try simp at C);rw[v];exact G9 A0 A0 B1 (gD I)) ?_;refine H3 ?_;simp only[and_pick];refine zc 0 (fun m=>?_) fun m=>?_
  ·have p:=A1 m;have p:0<k/\s.getD i 0=48:=⟨by omega,y.1 p.2⟩
   refine I3 ?_;refine A9 (rs:=[C8 0,C8 0,E1 false]) b0y ?_;unfold tM fE;rw[<-f,A6 (.inr (.inl ⟨by rw[A B1,p.2],by omega⟩))]
  ·have p:=A3 m;have p:0<k->s.getD i 0≠48:=fun H D=>p ⟨by omega,y.2 D⟩;refine I3 ?_;refine B2 (G9 A0 A0 B1 g1) A0 (B2 (LP A0 A0) A0 (G5 ?_));refine B2 (Z3 A0 A0 (by (rw[w];omega))) A0 ?_;refine F5 ?_;rw[w,show 10*((cA (b.take k):Nat):Int)+((c.toNat-48:Nat):Int)=((cA (b.take (k+1)):Nat):Int) by rw[G];omega];refine zc 6 (fun m=>?_) fun m=>?_
   ·have H:(2147483647:Int)<((cA (b.take (k+1)):Nat):Int):=A1 m;refine I3 ?_;refine A9 (rs:=[C8 0,C8 0,E1 false]) b0y ?_;have x:∀j,k+1<=j->j<=b.length->cA (b.take (k+1))<=cA (b.take j):=by
     intro j;induction j with
     | zero=>intro h;omega
     | succ j T =>
      intro D U;by_cases R:k+1=j+1
      ·rw[R];exact C45 _
      ·have:=T B1 B1;obtain⟨_,_,_,g⟩:=xX (s:=s) (i:=i) (k:=j) (by rw[<-f];omega);rw[<-f]at g;omega
    have D:=x b.length B1 (C45 _);rw[C48]at D;unfold tM fE;rw[<-f,A6 (.inr (.inr B1))]
   ·have H:¬(2147483647:Int)<((cA (b.take (k+1)):Nat):Int):=A3 m;refine J0 ?_;refine⟨k+1,⟨B,by omega,fun _=>p B1⟩,by omega,?_⟩;rw[show ((i+(k+1):Nat):Int)=((i+k:Nat):Int)+1 by omega];exact C1
 ·have J:k=b.length:=by
   have p:=A3 m;have H:¬k<b.length:=by
    refine A3 (u ▸ ?_);exact A5 (by first | exact p | simpa using p)
   omega
  subst J;rw[C48]at O ⊢;refine zc 8 (fun m=>?_) fun m=>?_
  ·have L:b.length=0:=by have:=A1 m;omega
   refine I3 ?_;refine A9 (rs:=[C8 0,C8 0,E1 false]) b0y ?_;unfold tM fE;rw[<-f,A6 (.inl (List.length_eq_zero_iff.1 L))]
  ·have L:b.length≠0:=by have:=A3 m;omega
   refine O6 ?_;refine A9 (rs:=[C8 (cA b:Int),C8 ((i+b.length:Nat):Int),E1 true]) b0y ?_;unfold tM fE;rw[<-f,A7];rintro (h | ⟨h,P⟩ | h)
   ·exact L (by rw[h];rfl)
   ·rw[A B1]at h;exact z P (C85 h)
   ·omega
def octOk(c:UInt8):Prop:=48<=c.toNat/\c.toNat<=55
def RR(s:Str)(i q:Nat):Prop:=i+q<s.length/\octOk (s.getD (i+q) 0)
instance (s:Str) (i q:Nat):Decidable (RR s i q):=by unfold RR octOk;exact inferInstance
theorem IB(s p:Str):FnOk prog 247 [F6 s,F6 p] (fun rs=>rs=[E1 (decide (s.take p.length=p))]):=by
 refine FnOk.intro Tryz.func247 F1 A0 A0 A0 A0 (zz 15 ?_);refine D7 A0 A0 A0 A0 (fun a=>by have b:=a;(try simp at b);rw[a];exact BE A0 A0 B1 B1) ?_;refine I2 ?_;simp only[and_pick,C37];refine G5 ?_;refine A9 M1 ?_
 congr 4
 congr 1
 apply propext;constructor
 ·intro h;exact h.2
 ·intro h;refine⟨?_,h⟩;have:=congrArg List.length h;rw[C59]at this;omega
def WZ(s p:Str):List PV:=if s.take p.length=p then [F6 (s.drop p.length),E1 true] else [F6 s,E1 false]
theorem IC(s p:Str):FnOk prog 244 [F6 s,F6 p] (fun rs=>rs=WZ s p):=by
 refine FnOk.intro Tryz.func244 F1 A0 A0 A0 A0 (O6 ?_);refine E2 (IB s p) ?_;refine zc 2 (fun a=>?_) fun a=>?_
 ·have h:¬s.take p.length=p:=by intro h;rw[A4 h]at a;cases a
  refine I3 ?_;exact A9 (rs:=[F6 s,E1 false]) cN (by unfold WZ;rw[A7 h])
 ·have h:s.take p.length=p:=by
   by_cases h:s.take p.length=p
   ·exact h
   ·rw[A5 h]at a;cases a
  have b:p.length<=s.length:=by
   have:=congrArg List.length h;rw[C59]at this;omega
  refine J0 ?_;refine B2 (mC A0 A0 B1 B1) A0 (P1 ?_);exact A9 (rs:=[F6 (s.drop p.length),E1 true]) cN (by unfold WZ;rw[A6 h])
theorem NA(s p:Str):FnOk prog 236 [F6 s,F6 p] (fun b=>b=WZ s p):=by
 have a:=IC s p;unfold WZ at a ⊢;by_cases h:s.take p.length=p
 ·rw[A6 h]at a ⊢;refine FnOk.intro Tryz.func236 F1 A0 A0 A0 A0 (Z2 ?_);refine E2 (a) (J0 ?_);exact A9 cN rfl
 ·rw[A7 h]at a ⊢;refine FnOk.intro Tryz.func236 F1 A0 A0 A0 A0 (Z2 ?_);refine E2 (a) (J0 ?_);exact A9 cN rfl
theorem B65(z:Set4)(f:O0 z)(n:Int)(g:0<=n)(h:n<=255):FnOk prog 224 [S9 z,.one (.v (.int .u8 n))] (fun rs=>rs=[S9 (z.with_ n.toNat)]):=by
 have b:=vP z f (UInt8.ofNat n.toNat);have c:(UInt8.ofNat n.toNat).toNat=n.toNat:=by rw[UInt8.toNat_ofNat'];omega
 rw[c]at b;have d:((n.toNat:Nat):Int)=n:=by omega
 rwa[show pByte (UInt8.ofNat n.toNat)=.one (.v (.int .u8 n)) by show PV.one (.v (.int .u8 ((UInt8.ofNat n.toNat).toNat:Int)))=_;rw[c,d]]at b
theorem A15{n:Int}(a:0<=n)(b:n<=255):IntKind.u8.wrap n=n:=by simp[IntKind.wrap,IntKind.signed,IntKind.bits];omega
theorem DZ(z:Set4)(C:O0 z)(a b:UInt8)(y:a.toNat<=b.toNat):FnOk prog 239 [S9 z,pByte a,pByte b] (fun rs=>rs=[S9 (z.through a.toNat b.toNat)]):=by
 have ha:=a.toNat_lt;have hb:=b.toNat_lt;refine FnOk.intro Tryz.func239 F1 A0 A0 A0 A0 (F5 ?_);refine C2 (w9 3 A0 A0 A0) A0 (C2 (H9 6 A0) A0 (I2 ?_));refine B2 (a7 A0 (eI B1)) A0 (H3 ?_);refine B9 (X:=Nat) (fun i=>([(2,.s (m7 b)),(3,.s (.one (.ref 3 0))),(6,.s (.one (.ref 6 0))),(7,B6 ((a.toNat:Int)+i))],[(3,.box [.p (.v (.int .u64 (N9 i a.toNat z).a)),.p (.v (.int .u64 (N9 i a.toNat z).b)),.p (.v (.int .u64 (N9 i a.toNat z).c)),.p (.v (.int .u64 (N9 i a.toNat z).d))]),(6,.box [.p (.v (.int .u64 0)),.p (.v (.int .u64 0)),.p (.v (.int .u64 0)),.p (.v (.int .u64 0))])])) (fun i=>i<=b.toNat+1-a.toNat) (fun i=>b.toNat+1-a.toNat-i) 0 (C41 _) ?_ ?_
 ·rw[show (a.toNat:Int)+((0:Nat):Int)=(a.toNat:Int) by omega];exact C1
 intro i A;dsimp only at A ⊢;have l:=cZ i a.toNat C;have h:=iK i a.toNat z;obtain⟨w,m⟩:∃w,w=N9 i a.toNat z:=⟨_,rfl⟩
 rw[<-m]at l h ⊢;refine I2 ?_;refine B2 (a7 A0 (eI B1)) A0 ?_;refine zc 2 (fun k=>?_) fun k=>?_
 ·have B:=A1 k;have q:((a.toNat:Int)+(i:Int)).toNat=a.toNat+i:=by omega
  refine J0 ?_;refine B2 (a7 A0 (A15 B1 B1)) A0 (E2 (B65 w l ((a.toNat:Int)+(i:Int)) B1 B1) (F5 ?_));rw[q,<-h];refine I2 ?_;refine⟨i+1,by omega,by omega,?_⟩;rw[show (a.toNat:Int)+((i+1:Nat):Int)=(a.toNat:Int)+(i:Int)+1 by omega];exact C1
 have j:i=b.toNat+1-a.toNat:=by have:=A3 k;omega
 have g:w=z.through a.toNat b.toNat:=by rw[m,j];rfl
 rw[g];refine I3 ?_;exact A9 (rs:=[S9 (z.through a.toNat b.toNat)]) b3y rfl
theorem NB(s a:Str)(d:s.length<4294967281):FnOk prog 189 [F6 s,F6 a] (fun rs=>rs=[C8 (Lib.index s a)]) :=
 C15 (xs:=[.string ⟨s.toArray⟩,.string ⟨a.toArray⟩]) ⟨_,rfl,rfl,rfl⟩ rfl fun w b=>by
  obtain⟨m,c⟩:=zE b;refine (Tryz.stringslite_Index ⟨s.toArray⟩ ⟨a.toArray⟩ m w d c).mono ?_;rintro e w' ⟨rfl,rfl⟩;exact⟨by simp,rfl,rfl,rfl,C45 _,fun _ _=>rfl⟩
theorem XA{P:Program}{fn:Func}{fr:Fr}{ob:Obs}{t:Tmp}{k n:Nat}{tt:TypeId}{i:List TC}[hty:TyAgg P tt n](C:fn.results=#[.cell t tt])(ht:w7 fr t=some (.s (.one (.ref k 0))))(A:B5 ob k=some (.box i))(B:i.length=n):RetS P fn fr ob [.agg i]:=by
 unfold RetS;intro S G a w h;obtain⟨b,v,m⟩:=h.slot ht;obtain⟨F,p,E,d,y,ha⟩:=h.box A;rw[v]at d;cases d;have q:(loadVar tt ⟨b,0,none⟩).run P w=.ok (.agg (List.toArray p)) w:=o9 (ht:=hty) (by rw[<-ha.length,B]) (fun j z D=>by rw[C91];exact cell_of_heap y (by simpa using D));rw[C54]at m;exact⟨_,by simp[results,C,m,asAddr,q],⟨p,rfl,ha⟩⟩
end Go.Proofs.YtabbdaafimcjhaaGreatDoor
