
/- Walks of the program's functions. -/
import Derived.Test.YtabbdaafimcjhaaGreatDoorFd
set_option linter.all false
namespace Go.Proofs.YtabbdaafimcjhaaGreatDoor
open Go Go.AL
set_option maxRecDepth 100000
set_option maxHeartbeats 4000000
theorem tid_old{gf:Fr}{ob:Obs}(c:List Str)(s:Str)(q:s∈c)(j:B6 ob 710=some (.box [.mut 711,.buf 712 Str 1 K7 c]))(k:B6 ob 711=some (.map Str aT (eZ c 0))) :
  AL.Met Tryz.prog 124 [.one (.ref 710 0),.one (.p (.v (.string ⟨s.toArray⟩)))] gf ob [] (fun w ob'=>w=[.one (.p (.v (.int .i64 (L2 c s 0))))]/\ob'=ob):=by
 have l:=IG s c 0 q;refine AL.Met.intro Tryz.func124 F2 A0 A0 A0 (zz 9 ?_);refine B0 (D8 A0 j A0) A0 (zz 1 ?_);refine B0 (nC (s) (r:=some (.v (.int .i64 (L2 c s 0)))) A0 k A0 cZ dA (l)) A0 ?_;refine zc 12 (fun d=>?_) fun d=>?_
 ·cases d
 refine zz 7 ?_;exact C7 (F1 rfl rfl) gM (fun _ _ h=>h) ⟨rfl,rfl⟩
theorem tid_new{gf:Fr}{ob:Obs}(d:List Str)(s:Str)(C:s∉d)(E:d.length<=1073741823)(q:B6 ob 710=some (.box [.mut 711,.buf 712 Str 1 K7 d]))(y:B6 ob 711=some (.map Str aT (eZ d 0)))
  (B:B6 ob 712=some (.spare d.length 1 9)) :
  AL.Met Tryz.prog 124 [.one (.ref 710 0),.one (.p (.v (.string ⟨s.toArray⟩)))] gf ob [712] (fun D ob'=>D=[.one (.p (.v (.int .i64 d.length)))]/\ob'=(710,.box [.mut 711,.buf 712 Str 1 K7 (d++[s])])::(712,.spare (d++[s]).length 1 9)::Obs.forget 712 ((711,.map Str aT (eZ d 0++[(s,.v (.int .i64 d.length))]))::ob)):=by
 have z:=DL s d 0 C;refine AL.Met.intro Tryz.func124 F2 A0 A0 A0 (zz 9 ?_);refine B0 (D8 A0 q A0) A0 (zz 1 ?_);refine B0 (nC (s) (r:=none) A0 y A0 cZ dA (z)) A0 ?_;refine zc 12 (fun A=>?_) fun A=>?_
 ·refine zz 5 ?_;refine B0 (D8 A0 q A0) A0 (zz 8 ?_);refine B0 (D8 A0 q A0) A0 (zz 2 ?_);refine V1 (NG (s) A0 y A0 A0 A0 cZ dA (z)) (zz 1 ?_);have j:B6 ((711,Ob.map Str aT (eZ d 0++[(s,.v (.int .i64 d.length))]))::ob) 710=some (.box [.mut 711,.buf 712 Str 1 K7 d]):=by rw[A8 F2];exact q
  have w:B6 ((711,Ob.map Str aT (eZ d 0++[(s,.v (.int .i64 d.length))]))::ob) 712=some (.spare d.length 1 9):=by rw[A8 F2];exact B
  have k:B6 ((712,Ob.spare (d++[s]).length 1 9)::Obs.forget 712 ((711,Ob.map Str aT (eZ d 0++[(s,.v (.int .i64 d.length))]))::ob)) 710=some (.box [.mut 711,.p (.list Str 1 K7 d)]):=by
   rw[A8 F2,J3,j];rfl
  refine zz 5 ?_;refine B0 (D8 A0 j A0) A0 (zz 1 ?_);refine B0 (C0 (c:=K7) (ys:=[s]) (C3 A0 A0 A0 A0 E6) A0 A0 A0) A0 (C4 (X5 A0 w A0 (.pure _ _ _ _) SC A0) A0 (zz 2 ?_));refine V1 (K0 TySz.out A0 k A0 A0 A0 A0) (zz 7 ?_);exact C7 (F1 rfl rfl) gM (fun _ _ h=>h) ⟨rfl,rfl⟩
 ·cases A
theorem TW(files:List (List Str))(i m:Nat):(P7 files i).all (TC.free m)=true:=by
 rw[List.all_eq_true];intro t b;unfold P7 at b;obtain⟨r,_,rfl⟩:=List.mem_map.1 b;split<;>rfl
theorem ZQ{files:List (List Str)}{i:Nat}(b x:TC)(m:Nat):(((P7 files i).set i b).map (TC.forget m)).set i x=(P7 files i).set i x:=by
 have c:(P7 files i).map (TC.forget m)=P7 files i:=by
  unfold P7;rw[B80];apply List.map_congr_left;intro r _;simp only[Function.comp];split<;>rfl
 rw[List.map_set,c,List.set_set]
theorem TX{files:List (List Str)}{i:Nat}(b x:TC)(m d:Nat):((((P7 files i).set i b).map (TC.forget m)).map (TC.forget d)).set i x=(P7 files i).set i x:=by
 have c:∀m,(P7 files i).map (TC.forget m)=P7 files i:=by
  intro m;unfold P7;rw[B80];apply List.map_congr_left;intro r _;simp only[Function.comp];split<;>rfl
 rw[List.map_set,c,List.map_set,c,List.set_set]
theorem ZR(files:List (List Str))(hn:files.length<=1048576)(hl:files.flatten.length<=536870911):FnOk Tryz.prog 82 [pStrss files] (fun rs=>rs=[pIntss (files.map (J8 (D5 files))),n7 (D5 files)]):=by
 refine FnOk.intro Tryz.func82 F2 A0 A0 A0 A0 (zz 7 ?_);refine C4 (vL 711 Str aT A0) A0 (zz 1 ?_);refine C4 (n8 710 A0 A0 A0) A0 (zz 3 ?_);refine C1 (B39 712 Str 1 K7 9 (kb:=710) (o:=1) A0 A0 A0) (zz 3 ?_);refine C4 (l7 20 Unit (fun _ _=>.v (.slice none 0 0)) () A0 A0 B3 B3 (fun _=>by first | exact⟨⟨rfl,rfl⟩,trivial⟩ | exact⟨F6 _ _ _,trivial⟩ | exact⟨F6 _ _ _,⟨rfl,rfl⟩,F6 _ _ _,trivial⟩) b7w) A0 ?_;refine zz 4 ?_;refine C1 (B36 20 A0) ?_;have hz:((List.replicate ((files.length:Nat):Int).toNat ()).map fun x=>TC.p ((fun (_:Unit) (_:Nat)=>Cell.v (.slice none 0 0)) x 0))=P7 files 0:=by
  rw[B45,<-VP];simp
 have Y:(List.replicate ((files.length:Nat):Int).toNat ()).length=files.length:=by simp
 rw[hz,Y];refine zz 6 ?_;refine C2 (X:=Nat) (fun i=>([(4,.s (.one (.ref 710 0))),(5,.s (.one (.mut 20))),(16,B8 (List Str) 1 strsC files),(17,B7 files.length),(18,B7 i)],[(710,.box [.mut 711,.buf 712 Str 1 K7 (O6 files i 0)]),(711,.map Str aT (eZ (O6 files i 0) 0)),(712,.spare (O6 files i 0).length 1 9),(20,.tarr files.length 1 (P7 files i))])) (fun i=>i<=files.length) (fun i=>files.length-i) 0 (Nat.zero_le _) ?_ ?_
 ·rw[show O6 files 0 0=[] from rfl];exact Sees.of lf lo
 intro i hi;dsimp only at hi ⊢;refine zc 5 (fun K=>?_) fun K=>?_
 ·have G:i<files.length:=by have:=A1 K;omega
  obtain⟨f,O⟩:∃f,f=files.getD i []:=⟨_,rfl⟩
  have hv:files[i]?=some f:=by rw[O];simp[G]
  have ab:f.length<=files.flatten.length:=by
   have h1:f∈files:=B52 hv;have:∀(M:List (List Str)),f∈M->f.length<=M.flatten.length:=by
    intro M;induction M with
    | nil=>intro h;simp at h
    | cons x r ih =>
     intro h;simp only[B82,B48];rcases List.mem_cons.1 h with rfl | h
     ·omega
     ·have:=ih h;omega
   exact this files h1
  have W:(P7 files i).length=files.length:=by simp[P7]
  refine zz 6 ?_;refine B0 (A9 A0 (.pure _ _ _ _) A0 B3 hv) A0 (zz 11 ?_);refine C1 (B40 713 Int 1 D2 3 (kb:=20) (o:=i) A0 (A22 G) (by simp[I3,J0,Ob.free,SV.free,S1.free,TC.free,TW];repeat' (first | rfl | constructor))) ?_;refine C2 (X:=Nat) (fun j=>([(4,.s (.one (.ref 710 0))),(5,.s (.one (.mut 20))),(6,B7 i),(16,B8 (List Str) 1 strsC files),(17,B7 files.length),(18,B7 i),(23,B8 Str 1 K7 f),(24,B7 f.length),(25,B7 j)],[(20,.tarr files.length 1 ((P7 files i).set i (.buf 713 Int 1 D2 (J8 (D5 files) (f.take j))))),(710,.box [.mut 711,.buf 712 Str 1 K7 (O6 files i j)]),(711,.map Str aT (eZ (O6 files i j) 0)),(712,.spare (O6 files i j).length 1 9),(713,.spare (J8 (D5 files) (f.take j)).length 1 3)])) (fun j=>j<=f.length) (fun j=>f.length-j) 0 (Nat.zero_le _) ?_ ?_
  ·exact Sees.of lf lo
  intro j hj;dsimp only at hj ⊢;refine zc 5 (fun K=>?_) fun K=>?_
  ·have B:j<f.length:=by have:=A1 K;omega
   obtain⟨s,Z⟩:∃s,s=f[j]:=⟨_,rfl⟩
   have L:f[j]?=some s:=by rw[Z];simp[B]
   have y:=LR files i j s (by rw[<-O];exact L);obtain⟨d,U⟩:∃d,d=O6 files i j:=⟨_,rfl⟩
   have T:=DM files i j;obtain⟨rest,w⟩:=yI files i (j+1);obtain⟨q,E⟩:∃q,q=J8 (D5 files) (f.take j):=⟨_,rfl⟩
   have ac:q.length=j:=by rw[E];simp[J8];omega
   have F:J8 (D5 files) (f.take (j+1))=q++[L2 (D5 files) s 0]:=by
    rw[E,B76 B,<-Z];unfold J8;rw[B77];rfl
   rw[y]at w;rw[<-U]at y T w ⊢;rw[<-E];have C:((P7 files i).set i (.buf 713 Int 1 D2 q))[((i:Nat):Int).toNat]?=some (.buf 713 Int 1 D2 q):=by
    rw[B45,B89 (by rw[W];omega)]
   have A:(((P7 files i).set i (.buf 713 Int 1 D2 q)).map (TC.forget 712))[((i:Nat):Int).toNat]?=some (.buf 713 Int 1 D2 q):=by
    rw[B78,C];rfl
   refine zz 5 ?_;refine B0 (A9 A0 (.pure _ _ _ _) A0 B3 L) A0 (zz 3 ?_);by_cases z:s∈d
   ·have I:J2 d s=d:=by unfold J2;rw[A6 z]
    rw[I]at y w;have J:L2 (D5 files) s 0=L2 d s 0:=by rw[w];exact oG s rest d 0 z
    refine zz 0 ?_;refine t8 ((9,Q6 s)::[(4,.s (.one (.ref 710 0))),(5,.s (.one (.mut 20))),(6,B7 i),(16,B8 (List Str) 1 strsC files),(17,B7 files.length),(18,B7 i),(23,B8 Str 1 K7 f),(24,B7 f.length),(25,B7 j)]) [(20,.tarr files.length 1 ((P7 files i).set i (.buf 713 Int 1 D2 q))),(710,.box [.mut 711,.buf 712 Str 1 K7 d]),(711,.map Str aT (eZ d 0)),(712,.spare d.length 1 9),(713,.spare q.length 1 3)] (Sees.of lf lo) (M6 [12,10,8] [[],[8],[10,8],[12,10,8]] [(8,([],[])),(10,([713],[34])),(12,([],[]))] [(0,[]),(1,[]),(2,[]),(3,[]),(4,[]),(5,[]),(6,[]),(7,[]),(8,[]),(9,[8]),(10,[8]),(11,[10,8]),(12,[10,8])] [(0,[8]),(0,[10,8]),(1,[8]),(1,[10,8]),(2,[8]),(3,[8]),(4,[8]),(5,[8])] D6 D6 (C5 A0 A0 D6 A0 A0 (C6 A0 A0) (C5 A0 A0 D6 A0 A0 (C6 A0 A0) (C5 A0 A0 D6 A0 A0 (C6 A0 A0) (C5 A0 A0 D6 A0 A0 (C6 A0 A0) (C5 A0 A0 D6 A0 A0 (L3 A0 A0 A0 B3 B3) (C5 A0 A0 D6 A0 A0 (N5 A0 A0 (by first | exact C | exact A)) ?_)))))));refine C5 A0 A0 D6 A0 A0 (C6 A0 A0) (C5 A0 A0 D6 A0 A0 (C6 A0 A0) (W5 A0 A0 D6 A0 A0 (r_met (fun gf=>tid_old d s z A0 A0) A0 A0) A0 (C5 A0 A0 D6 A0 A0 (C0 (c:=D2) (ys:=[L2 d s 0]) (C3 A0 A0 A0 A0 E6) A0 A0 A0) (W5 A0 A0 D6 A0 A0 (kT (fun H D=>X5 (Q1 D A0) A0 (Q1 D A0) (.pure _ _ _ _) SC A0)) A0 (C5 A0 A0 D6 A0 A0 (L3 A0 A0 A0 B3 B3) (W5 A0 A0 D6 A0 A0 (fJ (fun H D=>fI TySz.out (Q1 D A0) A0 MR (Q1 D A0) A0)) A0 ?_))))));refine AT D6 rfl ?_ ?_
    ·refine F5 A0 A0 D6 A0 A0 (C6 A0 A0) (F5 A0 A0 D6 A0 A0 (C6 A0 A0) (F5 A0 A0 D6 A0 A0 (C6 A0 A0) (F5 A0 A0 D6 A0 A0 (C6 A0 A0) (F5 A0 A0 D6 A0 A0 (C6 A0 A0) (F5 A0 A0 D6 A0 A0 (C6 A0 A0) (F5 A0 A0 D6 A0 A0 (L3 A0 A0 A0 B3 B3) (F5 A0 A0 D6 A0 A0 (N5 A0 A0 (by first | exact C | exact A)) ?_)))))));exact jQ
    refine t8 [(4,.s (.one (.ref 710 0))),(5,.s (.one (.mut 20))),(6,B7 i),(16,B8 (List Str) 1 strsC files),(17,B7 files.length),(18,B7 i),(23,B8 Str 1 K7 f),(24,B7 f.length),(25,B7 j)] [(20,.tarr files.length 1 ((P7 files i).set i (.buf 713 Int 1 D2 (q++[L2 d s 0])))),(710,.box [.mut 711,.buf 712 Str 1 K7 (d)]),(711,.map Str aT (eZ (d) 0)),(712,.spare (d).length 1 9),(713,.spare (q++[L2 d s 0]).length 1 3)] (by rw[B45 i,ZQ];exact Sees.of lf lo) ?_;refine zz 4 ?_;exact⟨j+1,B,by omega,by rw[y,F,J];exact Sees.of lf lo⟩
   ·refine zz 0 ?_;have I:J2 d s=d++[s]:=by unfold J2;rw[A7 z]
    rw[I]at y w;have S:eZ (d++[s]) 0=eZ d 0++[(s,.v (.int .i64 (d.length:Int)))]:=by rw[IF];simp only[Int.zero_add]
    have J:L2 (D5 files) s 0=d.length:=by
     rw[w,oG s rest (d++[s]) 0 dV,yH s d 0 z];omega
    refine t8 ((9,Q6 s)::[(4,.s (.one (.ref 710 0))),(5,.s (.one (.mut 20))),(6,B7 i),(16,B8 (List Str) 1 strsC files),(17,B7 files.length),(18,B7 i),(23,B8 Str 1 K7 f),(24,B7 f.length),(25,B7 j)]) [(20,.tarr files.length 1 ((P7 files i).set i (.buf 713 Int 1 D2 (q)))),(710,.box [.mut 711,.buf 712 Str 1 K7 (d)]),(711,.map Str aT (eZ (d) 0)),(712,.spare (d).length 1 9),(713,.spare (q).length 1 3)] (Sees.of lf lo) (M6 [12,10,8] [[],[8],[10,8],[12,10,8]] [(8,([712],[])),(10,([713],[34])),(12,([],[]))] [(0,[]),(1,[]),(2,[]),(3,[]),(4,[]),(5,[]),(6,[]),(7,[]),(8,[]),(9,[8]),(10,[8]),(11,[10,8]),(12,[10,8])] [(0,[8]),(0,[10,8]),(1,[8]),(1,[10,8]),(2,[8]),(3,[8]),(4,[8]),(5,[8])] D6 D6 (C5 A0 A0 D6 A0 A0 (C6 A0 A0) (C5 A0 A0 D6 A0 A0 (C6 A0 A0) (C5 A0 A0 D6 A0 A0 (C6 A0 A0) (C5 A0 A0 D6 A0 A0 (C6 A0 A0) (C5 A0 A0 D6 A0 A0 (L3 A0 A0 A0 B3 B3) (C5 A0 A0 D6 A0 A0 (N5 A0 A0 (by first | exact C | exact A)) ?_)))))));refine C5 A0 A0 D6 A0 A0 (C6 A0 A0) (C5 A0 A0 D6 A0 A0 (C6 A0 A0) (W5 A0 A0 D6 A0 A0 (r_met (fun gf=>tid_new d s z B3 A0 A0 A0) A0 A0) A0 (C5 A0 A0 D6 A0 A0 (C0 (c:=D2) (ys:=[(d.length:Int)]) (C3 A0 A0 A0 A0 E6) A0 A0 A0) (W5 A0 A0 D6 A0 A0 (kT (fun H D=>X5 (Q1 D A0) A0 (Q1 D A0) (.pure _ _ _ _) SC A0)) A0 (C5 A0 A0 D6 A0 A0 (L3 A0 A0 A0 B3 B3) (W5 A0 A0 D6 A0 A0 (fJ (fun H D=>fI TySz.out (Q1 D A0) A0 MR (Q1 D A0) A0)) A0 ?_))))));refine AT D6 rfl ?_ ?_
    ·refine F5 A0 A0 D6 A0 A0 (C6 A0 A0) (F5 A0 A0 D6 A0 A0 (C6 A0 A0) (F5 A0 A0 D6 A0 A0 (C6 A0 A0) (F5 A0 A0 D6 A0 A0 (C6 A0 A0) (F5 A0 A0 D6 A0 A0 (C6 A0 A0) (F5 A0 A0 D6 A0 A0 (C6 A0 A0) (F5 A0 A0 D6 A0 A0 (L3 A0 A0 A0 B3 B3) (F5 A0 A0 D6 A0 A0 (N5 A0 A0 (by first | exact C | exact A)) ?_)))))));exact jQ
    refine t8 [(4,.s (.one (.ref 710 0))),(5,.s (.one (.mut 20))),(6,B7 i),(16,B8 (List Str) 1 strsC files),(17,B7 files.length),(18,B7 i),(23,B8 Str 1 K7 f),(24,B7 f.length),(25,B7 j)] [(20,.tarr files.length 1 ((P7 files i).set i (.buf 713 Int 1 D2 (q++[(d.length:Int)])))),(710,.box [.mut 711,.buf 712 Str 1 K7 (d++[s])]),(711,.map Str aT (eZ (d++[s]) 0)),(712,.spare (d++[s]).length 1 9),(713,.spare (q++[(d.length:Int)]).length 1 3)] (by rw[B45 i,TX,S];exact Sees.of lf lo) ?_;refine zz 4 ?_;exact⟨j+1,B,by omega,by rw[y,F,J];exact Sees.of lf lo⟩
  ·have R:j=f.length:=by have:=A3 K;omega
   subst R;rw[B51];refine zz 1 ?_;refine C1 (Sees.forget 713) ?_;have P:((P7 files i).set i (.buf 713 Int 1 D2 (J8 (D5 files) f))).map (TC.forget 713)=P7 files (i+1):=by rw[O];exact LS files i 713 G
   have V:O6 files (i+1) 0=O6 files i f.length:=by rw[O];exact QX files i
   refine t8 [(4,.s (.one (.ref 710 0))),(5,.s (.one (.mut 20))),(16,B8 (List Str) 1 strsC files),(17,B7 files.length),(18,B7 i)] [(710,.box [.mut 711,.buf 712 Str 1 K7 (O6 files (i+1) 0)]),(711,.map Str aT (eZ (O6 files (i+1) 0) 0)),(712,.spare (O6 files (i+1) 0).length 1 9),(20,.tarr files.length 1 (P7 files (i+1)))] (by rw[V,<-P];exact Sees.of lf lo) ?_;refine zz 4 ?_;exact⟨i+1,G,by omega,Sees.of lf lo⟩
 ·have Q:i=files.length:=by have:=A3 K;omega
  rw[Q,QY];refine C1 (B37 20 (c:=intsC) (files.map (J8 (D5 files))) A0 dV (VQ files)) (C1 (Sees.freeze (k:=20) A0) (C1 (Sees.forget 712) (zz 12 ?_)));exact B2 (S6 rfl rfl rfl rfl rfl) rfl
theorem KL(files:List (List Str))(b:files.length<=1048576)(a:files.flatten.length<=536870911):FnOk Tryz.prog 42 [pStrss files] (fun rs=>rs=[pIntss (files.map (J8 (D5 files)))]):=by
 refine FnOk.intro Tryz.func42 F2 A0 A0 A0 A0 (zz 7 ?_);refine E3 (ZR files b a) (zz 12 ?_);exact B2 (G6 rfl rfl rfl) rfl
theorem iV{k:Nat}{ob:Obs}{j:Nat}{o:Ob}(h:B6 (Obs.drop k ob) j=some o):B6 ob j=some o/\j≠k:=by
 by_cases e:j=k
 ·subst e;exfalso;have:∀ob:Obs,B6 (Obs.drop j ob) j=none:=by
   intro ob;induction ob with
   | nil=>rfl
   | cons p r a =>
    obtain⟨i,x⟩:=p;unfold Obs.drop;cases hb:Nat.beq i j
    ·show B6 ((i,x)::Obs.drop j r) j=none;rw[A8 (fun e=>by rw[e,Nat.beq_refl]at hb;cases hb)];exact a
    ·exact a
  rw[this]at h;cases h
 ·rw[jS e]at h;exact⟨h,e⟩
theorem B31{P:Program}{nt:Nat}{fr:Fr}{ob:Obs}{t k:Nat}{M:List TC}{cs:List Cell}(T:D4 fr t=some (.s (.one (.ref k 0))))(y:B6 ob k=some (.box M))(R:fE M=some cs)(A:Nat.blt k 1000000=true) :
  Sees P nt fr ob ((t,.s (.one (.eref Unit cs.length (fun _ j=>cs.getD j (.v undef)) () 0)))::fr) (Obs.drop k ob):=by
 unfold Sees;intro S G a w W h;have Q:k<1000000:=by simpa using A
 obtain⟨b,X,tt,u,O,c⟩:=h.box y;have K:Sim P S fr (Obs.drop k ob) G a w:=h.weakenO fun j o l=>(iV l).1;have E:∀b i z,D7 (Mut S ob G) w b i z->D7 (Mut S (Obs.drop k ob) G) w b i z:=fun b i z L=>⟨L.1,fun B=>L.2 (B.imp id fun ⟨q,o,D,C⟩=>⟨q,o,(iV D).1,C⟩)⟩
 refine⟨G,{ K with facts:=fun i s g=>?_ }⟩;by_cases J:t=i
 ·subst J;rw[C9]at g;cases g;obtain⟨V,d,U⟩:=h.facts t _ T;rw[u]at d;cases d;refine⟨b,0,by rw[U],fun j l=>?_⟩;have N:=z8 R c;obtain⟨z,F,H⟩:=N.get j _ (B44 l);refine⟨z,⟨by rw[Nat.zero_add];exact cell_of_heap O (by simpa using F),?_⟩,?_⟩
  ·rintro (B | ⟨q,o,D,C⟩)
   ·have I:=h.m0 _ _ B;rcases h.old k _ b y (by rw[u];rfl) with m | ⟨_,m⟩
    ·omega
    ·omega
   ·obtain⟨I,m⟩:=iV D;exact m (h.dis q k _ _ b I y C.1 (by rw[u];rfl))
  ·show (cs.getD j (.v undef)).rep _ z;rw[B46,B44 l];exact Cell.rep_mono E _ _ H
 ·rw[B9 J]at g;exact K.facts i s g
abbrev lD(ns:List AL.Node)(w:List Int):Ob:=.box [.p (.list AL.Node 8 N7 ns),.p (.list Int 1 D2 w),.mut 821]
abbrev aV(l:List AL.State):Ob:=.grow 121 AL.State 7 gB l
abbrev lE:S1:=.one (.ref 820 0)
theorem ZS{K:List Nat}{T rest:Obs}{k:Nat}(c:B6 rest k=none)(h:∀j x,E5 K j=false->B6 rest j=some x->B6 T j=some x):∀j x,E5 K j=false->B6 rest j=some x->B6 (Obs.drop k T) j=some x:=by
 intro j x b a;have:j≠k:=fun e=>by rw[e,c]at a;cases a
 rw[jS this];exact h j x b a
theorem bT{gf:Fr}{ob:Obs}{ns:List AL.Node}{w:List Int}(l:List AL.State)(q:AL.State)(m:l.length<=100000)(i:B6 ob 820=some (lD ns w))(k:B6 ob 821=some (aV l)) :
  AL.Met Tryz.prog 66 [lE,(VU q).s1] gf ob [821] (fun rs ob'=>rs=[N8 l.length]/\ob'=(820,lD ns w)::(821,aV (l++[q]))::Obs.forget 821 ob):=by
 refine AL.Met.introH Tryz.func66 F2 rfl rfl rfl (fun d=>?_);refine C1 (B14 821 (l:=[(0,.s lE),(1,.s (VU q).s1)]) (L:=[(820,_),(821,_)]) lf d I8 ⟨i,k,trivial⟩) ?_;refine zz 6 ?_;refine C1 (B13 (gf':=Fr.forget 821 gf) (l:=[(0,.s lE),(3,.s (.one (.eref Unit 7 (fun _ j=>(cellsOf gB q 0 7).getD j (.v undef)) () 0)))]) (ob':=[(820,lD ns w),(821,aV l)]++Obs.forget 821 ob) lf (cX d) I8 (fun _ _ h=>h)) ?_;refine M6 [10,7] [[],[7],[10,7]] [(7,([821],[9])),(10,([],[]))] [(0,[]),(1,[]),(2,[]),(3,[]),(4,[]),(5,[]),(6,[]),(7,[]),(8,[7]),(9,[7]),(10,[7])] [(0,[7])] D6 D6 (C5 A0 A0 D6 A0 A0 (C6 A0 A0) (C5 A0 A0 D6 A0 A0 (C6 A0 A0) (C5 A0 A0 D6 A0 A0 (E7 A0) (C5 A0 A0 D6 A0 A0 (F0 A0) (C5 A0 A0 D6 A0 A0 (D8 A0 A0 A0) (C5 A0 A0 D6 A0 A0 (T9 A0 A0) (C5 A0 A0 D6 A0 A0 (C0 (c:=gB) (ys:=[q]) (C3 A0 A0 A0 A0 E6) A0 A0 A0) (W5 A0 A0 D6 A0 A0 (kT (fun b a=>P0 (Q1 a A0) A0 (Q1 a A0) (.pure _ _ _ _) SC A0)) A0 (C5 A0 A0 D6 A0 A0 (E7 A0) (C5 A0 A0 D6 A0 A0 (F0 A0) (W5 A0 A0 D6 A0 A0 (fJ (fun b a=>K0 TySz.out (Q1 a A0) A0 (Q1 a A0) A0 A0 A0)) A0 ?_)))))))))));refine rI (ks:=[821]) rfl D6 rfl ?_ ?_
 ·refine F5 A0 A0 D6 A0 A0 (C6 A0 A0) ?_;exact jQ
 refine zz 7 ?_;refine B0 (aL A0 A0 b9x) A0 (zz 3 ?_);refine C7 (F1 rfl rfl) b5w (C8 (L:=[(820,_),(821,_)]) ⟨rfl,rfl,trivial⟩ b9w) ⟨?_,rfl⟩;rw[B48,List.length_singleton]
 congr 5
 omega
section
variable (ns:List AL.Node) (w:List Int)
theorem u7:∀f:Nat,(∀i next st st' r,I9 ns w f i next st=some (st',r)->st.length<=st'.length)/\(∀c next st st' r,aK ns w f c next st=some (st',r)->st.length<=st'.length)/\(∀c next s0 st st' r,y7 ns w f c next s0 st=some (st',r)->st.length<=st'.length) /\
  (∀b m last next st st' r,s9 ns w f b m last next st=some (st',r)->st.length<=st'.length)/\(∀b m next st st' r,t6 ns w f b m next st=some (st',r)->st.length<=st'.length)
 | 0=>⟨(fun _ _ _ _ _ h=>by cases h),(fun _ _ _ _ _ h=>by cases h),(fun _ _ _ _ _ _ h=>by cases h),(fun _ _ _ _ _ _ _ h=>by cases h),(fun _ _ _ _ _ _ h=>by cases h)⟩
 | f + 1=>by
  obtain⟨d,n,l,o,j⟩:=u7 f;refine⟨fun i next st st' r h=>?_,fun c next st st' r h=>?_,fun c next s0 st st' r h=>?_,fun b m last next st st' r h=>?_,fun b m next st st' r h=>?_⟩
  ·rw[I9]at h;dsimp only at h;split at h
   ·cases h;exact Nat.le_refl _
   split at h
   ·cases h;simp
   split at h
   ·cases h;simp
   split at h
   ·cases h;simp
   split at h
   ·exact n _ _ _ _ _ h
   split at h
   ·split at h
    ·cases h
    ·split at h
     ·cases h
     ·rename_i a;exact Nat.le_trans (d _ _ _ _ _ a) (l _ _ _ _ _ _ h)
   split at h
   ·split at h
    ·split at h
     ·cases h
     ·rename_i a;have g:=d _ _ _ _ _ a;have e:=j _ _ _ _ _ _ h;rw[B48,List.length_singleton]at g;rw[B65]at e;omega
    ·split at h
     ·cases h
     ·rename_i a;exact Nat.le_trans (o _ _ _ _ _ _ _ a) (j _ _ _ _ _ _ h)
   ·cases h;exact Nat.le_refl _
  ·cases c with
   | nil=>rw[aK]at h;cases h;exact Nat.le_refl _
   | cons k c =>
    rw[aK]at h;split at h
    ·cases h
    ·rename_i a;exact Nat.le_trans (d _ _ _ _ _ a) (n _ _ _ _ _ h)
  ·cases c with
   | nil=>rw[y7]at h;cases h;exact Nat.le_refl _
   | cons k c =>
    rw[y7]at h;split at h
    ·cases h
    ·rename_i a;have g:=d _ _ _ _ _ a;have e:=l _ _ _ _ _ _ h;rw[B48,List.length_singleton]at e;omega
  ·cases m with
   | zero=>rw[s9]at h;cases h;exact Nat.le_refl _
   | succ m =>
    rw[s9]at h;split at h
    ·cases h
    ·rename_i a;have g:=d _ _ _ _ _ a;have e:=o _ _ _ _ _ _ _ h;rw[B48,List.length_singleton]at e;omega
  ·cases m with
   | zero=>rw[t6]at h;cases h;exact Nat.le_refl _
   | succ m =>
    rw[t6]at h;split at h
    ·cases h
    ·rename_i a;exact Nat.le_trans (d _ _ _ _ _ a) (j _ _ _ _ _ _ h)
end
def BT(ns:List AL.Node)(w:List Int)(f:Nat):Prop:=∀(i:Int) (next:Int) (st st':List AL.State) (r:Int),I9 ns w f i next st=some (st',r)->(0<=i/\i<ns.length)->st'.length<=20000 ->
 ∀{gf:Fr} {ob:Obs},B6 ob 820=some (lD ns w)->B6 ob 821=some (aV st)->B6 ob 824=none ->
  AL.Met Tryz.prog 67 [lE,N8 i,N8 next] gf ob [821,824] (fun a ob'=>a=[N8 r]/\ob'=(820,lD ns w)::(821,aV st')::F9 [821,824] ob)
theorem taker{a:List Int}{j:Nat}{k:Int}(h:a[j]?=some k):(a.take (j+1)).reverse=k::(a.take j).reverse:=by
 rw[List.take_add_one,h,Option.toList_some,List.reverse_append];rfl
theorem EP{p:Prop}(h:p:=by repeat (first | exact N0 | refine R9 rfl ?_ | refine H3 (by assumption) ?_ | refine TO _ rfl ?_ | refine ZS (by assumption) ?_)):p:=h
theorem jJ{p:Prop}(h:p:=by repeat (first | exact X0 | refine tail_drop rfl ?_ | refine X1 rfl ?_ | refine oT _ rfl ?_)):p:=h
theorem TY{ns:List AL.Node}{w:List Int}{F:Nat}(IH:∀g,g<=F->BT ns w g)(d:List Int)(next:Int)(st st1 st':List AL.State)(s0 r k:Int)(m:List Int)(K:d.reverse=k::m)(B:∀k∈d,0<=k/\k<ns.length)(hkl:d.length<=4000)(hb:I9 ns w F k next st=some (st1,s0))(ha:y7 ns w F m next s0 st1=some (st',r))(hl:st'.length<=20000)
  {gf:Fr} {ob:Obs} (S:B6 ob 820=some (lD ns w)) (T:B6 ob 821=some (aV st)) (U:B6 ob 824=none) :
  AL.Met Tryz.prog 109 [lE,.one (.p (.list Int 1 D2 d)),N8 next] gf ob [821,824] (fun rs ob'=>rs=[N8 r]/\ob'=(820,lD ns w)::(821,aV st')::F9 [821,824] ob):=by
 have R:d.length=m.length+1:=by have:=congrArg List.length K;rwa[B90,B49]at this
 have O:m=(d.take m.length).reverse:=by
  have H:d=m.reverse++[k]:=by rw[<-List.reverse_reverse d,K,List.reverse_cons]
  rw[H,List.take_append_of_le_length dV,B69 dV,List.reverse_reverse]
 have C:d[(((d.length:Nat):Int)-1).toNat]?=some k:=by
  have H:d=m.reverse++[k]:=by rw[<-List.reverse_reverse d,K,List.reverse_cons]
  rw[show (((d.length:Nat):Int)-1).toNat=m.reverse.length by rw[B90];omega,H];exact List.getElem?_concat_length
 have Z:=(u7 ns w F).2.2.1 _ _ _ _ _ _ ha;refine AL.Met.introH Tryz.func109 F2 rfl rfl rfl (fun E=>?_);refine C1 (B14 821 (l:=[(0,.s lE),(1,B8 Int 1 D2 d),(2,.s (N8 next))]) (L:=[(820,_),(821,_)]) lf E I8 ⟨S,T,trivial⟩) ?_;refine C1 (Sees.forget 824) ?_;have A:B6 (F9 [821,824] ob) 824=none:=Y5 U;refine C1 (B13 (gf':=B5 [821,824] gf) (l:=[(0,.s lE),(1,B8 Int 1 D2 d),(2,.s (N8 next))]) (ob':=[(820,lD ns w),(821,aV st)]++F9 [821,824] ob) lf (B1 E) jJ (C8 (L:=[(820,_),(821,_)]) ⟨rfl,rfl,trivial⟩ MS)) ?_;refine zz 16 ?_;refine B0 (A9 A0 (.pure _ _ _ _) A0 B3 C) A0 (zz 2 ?_);refine H8 (IH F (Nat.le_refl _) k next st st1 s0 hb (B k (B52 C)) B3 A0 A0 A) A0 A0 A0 ?_;rintro _ _ ⟨rfl,rfl⟩;refine zz 10 ?_;refine C2 (X:=Nat×Nat×Int×List AL.State) (fun x=>([(0,.s lE),(1,B8 Int 1 D2 d),(2,.s (N8 next)),(8,B7 x.2.2.1),(9,B7 ((x.2.1:Int)-1))]++B5 [821,824] gf,[(820,lD ns w),(821,aV x.2.2.2)]++F9 [821,824] ob)) (fun x=>x.1<=F/\x.2.1<=m.length/\y7 ns w x.1 (d.take x.2.1).reverse next x.2.2.1 x.2.2.2=some (st',r)) (fun x=>x.2.1) (F,m.length,s0,st1) ⟨Nat.le_refl _,Nat.le_refl _,by dsimp only;rw[<-O];exact ha⟩ ?_ ?_
 ·dsimp only;rw[show ((m.length:Int)-1)=((d.length:Int)-1-1) by omega];exact B13 lf (B1 E) jJ (C8 (L:=[(820,_),(821,_)]) ⟨rfl,rfl,trivial⟩ EP)
 rintro⟨f,c,s1,sx⟩ ⟨Y,V,h⟩;dsimp only at Y V h ⊢;refine zc 6 (fun Q=>?_) fun Q=>?_;rotate_left
 ·have I:c=0:=by have:=A3 Q;omega
  subst I;have J:f≠0:=fun e=>by rw[e]at h;cases h
  obtain⟨f,rfl⟩:∃g,f=g+1:=⟨f-1,by omega⟩
  rw[List.take_zero,List.reverse_nil,y7]at h;cases h;refine zz 7 ?_;exact C7 (F1 rfl rfl) jJ (C8 (L:=[(820,_),(821,_)]) ⟨rfl,rfl,trivial⟩ EP) ⟨rfl,rfl⟩
 have W:0<c:=by have:=A1 Q;omega
 obtain⟨c,rfl⟩:∃g,c=g+1:=⟨c-1,by omega⟩
 obtain⟨z,M⟩:∃z,z=d[c]'B3:=⟨_,rfl⟩
 have j:d[c]?=some z:=by rw[M];exact B44 B3
 have D:d[(((c+1:Nat):Int)-1).toNat]?=some z:=by rw[show (((c+1:Nat):Int)-1).toNat=c by omega];exact j
 rw[taker j]at h;have J:f≠0:=fun e=>by rw[e]at h;cases h
 obtain⟨f,rfl⟩:∃g,f=g+1:=⟨f-1,by omega⟩
 rw[y7]at h;cases q:I9 ns w f z next sx with
 | none=>rw[q]at h;cases h
 | some y =>
  obtain⟨G,b⟩:=y;rw[q]at h;dsimp only at h;have P:=(u7 ns w f).2.2.1 _ _ _ _ _ _ h;rw[B48,List.length_singleton]at P;refine zz 8 ?_;refine B0 (A9 A0 (.pure _ _ _ _) A0 B3 D) A0 (zz 2 ?_);refine H8 (IH f B3 z next sx G b q (B z (B52 j)) B3 A0 A0 A) A0 A0 A0 ?_;rintro _ _ ⟨rfl,rfl⟩;refine zz 2 ?_;refine H8 (bT G ⟨1,⟨0,0,0,0⟩,b,s1⟩ B3 A0 A0) A0 A0 A0 ?_;rintro _ _ ⟨rfl,rfl⟩;refine zz 7 ?_;refine⟨(f,c,(G.length:Int),G++[⟨1,⟨0,0,0,0⟩,b,s1⟩]),⟨by dsimp only;omega,by dsimp only;omega,h⟩,by dsimp only;omega,?_⟩;dsimp only;rw[show ((c:Int)-1)=(((c+1:Nat):Int)-1-1) by omega];exact B13 lf (B1 E) jJ (C8 (L:=[(820,_),(821,_)]) ⟨rfl,rfl,trivial⟩ EP)
theorem OY{ns:List AL.Node}{w:List Int}{F:Nat}(IH:∀g,g<=F->BT ns w g)(n:AL.Node)(d next:Int)(st q C st':List AL.State)(z P r:Int)(Z:n.Kids[(0:Int).toNat]?=some d)(H:0<=d/\d<ns.length)(af:0<=n.Min/\n.Min<=100/\(n.Max = -1\/n.Min<=n.Max/\n.Max<=100))
  (ab:n.Max<0->∃B a,I9 ns w F d st.length (st++[⟨1,⟨0,0,0,0⟩,0,next⟩])=some (B,a)/\q=B.set st.length { (B.getD st.length T7) with Next:=a }/\z=st.length) (Y:¬n.Max<0->q=st/\z=next)
  (O:s9 ns w F d (n.Max-n.Min).toNat z z q=some (C,P)) (M:t6 ns w F d n.Min.toNat P C=some (st',r)) (hl:st'.length<=20000)
  {gf:Fr} {ob:Obs} (h0:B6 ob 820=some (lD ns w)) (h1:B6 ob 821=some (aV st)) (h2:B6 ob 824=none) :
  AL.Met Tryz.prog 110 [lE,(aG n).s1,N8 next] gf ob [821,824] (fun rs ob'=>rs=[N8 r]/\ob'=(820,lD ns w)::(821,aV st')::F9 [821,824] ob):=by
 have ag:=(u7 ns w F).2.2.2.2 _ _ _ _ _ _ M;have ac:=(u7 ns w F).2.2.2.1 _ _ _ _ _ _ _ O;refine AL.Met.introH Tryz.func110 F2 rfl rfl rfl (fun A=>?_);refine C1 (B14 821 (l:=[(0,.s lE),(1,.s (aG n).s1),(2,.s (N8 next))]) (L:=[(820,_),(821,_)]) lf A I8 ⟨h0,h1,trivial⟩) ?_;refine C1 (Sees.forget 824) ?_;have G:B6 (F9 [821,824] ob) 824=none:=Y5 h2;refine C1 (B13 (gf':=B5 [821,824] gf) (l:=[(0,.s lE),(1,.s (aG n).s1),(2,.s (N8 next))]) (ob':=[(820,lD ns w),(821,aV st)]++F9 [821,824] ob) lf (B1 A) jJ (C8 (L:=[(820,_),(821,_)]) ⟨rfl,rfl,trivial⟩ MS)) ?_;refine zz 9 ?_;refine B0 (A9 A0 (.pure _ _ _ _) A0 B3 Z) A0 (zz 10 ?_);refine S7 ([(0,.s lE),(2,B7 z),(4,.s (.one (.eref Unit 8 (fun _ j=>(cellsOf N7 n 0 8).getD j (.v undef)) () 0))),(7,B7 d)]++B5 [821,824] gf) ([(820,lD ns w),(821,aV q)]++F9 [821,824] ob) ?_ ?_
 ·skip;refine zc 0 (fun m=>?_) fun m=>?_
  ·obtain⟨B,a,J,Q,R⟩:=ab (A1 m);subst Q R;have ad:=(u7 ns w F).1 _ _ _ _ _ J;rw[B48,List.length_singleton]at ad;rw[B65]at ac;refine zz 5 ?_;refine H8 (bT st ⟨1,⟨0,0,0,0⟩,0,next⟩ B3 A0 A0) A0 A0 A0 ?_;rintro _ _ ⟨rfl,rfl⟩;refine zz 3 ?_;have W:B6 (Obs.forget 821 (F9 [821,824] ob)) 824=none:=by rw[J3,G];rfl
   refine zz 4 ?_;refine H8 (IH F (Nat.le_refl _) d st.length (st++[⟨1,⟨0,0,0,0⟩,0,next⟩]) B a J H B3 A0 A0 W) A0 A0 A0 ?_;rintro _ _ ⟨rfl,rfl⟩;refine zz 3 ?_;have ae:B[((st.length:Nat):Int).toNat]?=some (B.getD st.length T7):=by
    rw[B45,B46,B44 B3];rfl
   refine C1 (B13 (gf':=B5 [821,824] gf) (l:=[(0,.s lE),(4,.s (.one (.eref Unit 8 (fun _ j=>(cellsOf N7 n 0 8).getD j (.v undef)) () 0))),(7,B7 d),(8,B7 st.length),(9,B7 a)]) (ob':=[(820,lD ns w),(821,aV B)]++F9 [821,824] ob) lf (B1 A) jJ (C8 (L:=[(820,_),(821,_)]) ⟨rfl,rfl,trivial⟩ EP)) ?_;refine zz 8 ?_;refine B0 (JC A0) A0 (V1 (bQ ({ (B.getD st.length T7) with Next:=a }) TySz.out A0 A0 ae A0 A0 A0 A0 (fun _ _ _ h=>cW h) (by intro j h1 h2;rcases j with _ | _ | _ | _ | _ | _ | _ | j<;>first | rfl | omega)) ?_);refine zz 5 ?_;exact B13 lf (B1 A) jJ (C8 (L:=[(820,_),(821,_)]) ⟨rfl,rfl,trivial⟩ EP)
  ·obtain⟨Q,R⟩:=Y (A3 m);subst Q R;refine zz 1 ?_;exact B13 lf (B1 A) jJ (C8 (L:=[(820,_),(821,_)]) ⟨rfl,rfl,trivial⟩ EP)
 refine zz 16 ?_;refine C2 (X:=Nat×Nat×Int×List AL.State) (fun x=>([(0,.s lE),(2,B7 x.2.2.1),(4,.s (.one (.eref Unit 8 (fun _ j=>(cellsOf N7 n 0 8).getD j (.v undef)) () 0))),(7,B7 d),(10,B7 z),(40,B7 (n.Max-n.Min)),(41,B7 (((n.Max-n.Min).toNat:Int)-x.2.1))]++B5 [821,824] gf,[(820,lD ns w),(821,aV x.2.2.2)]++F9 [821,824] ob)) (fun x=>x.1<=F/\x.2.1<=(n.Max-n.Min).toNat/\s9 ns w x.1 d x.2.1 z x.2.2.1 x.2.2.2=some (C,P)) (fun x=>x.2.1) (F,(n.Max-n.Min).toNat,z,q) ⟨Nat.le_refl _,Nat.le_refl _,O⟩ ?_ ?_
 ·dsimp only;rw[Int.sub_self];exact B13 lf (B1 A) jJ (C8 (L:=[(820,_),(821,_)]) ⟨rfl,rfl,trivial⟩ EP)
 rintro⟨f,c,s1,sx⟩ ⟨U,S,i⟩;dsimp only at U S i ⊢;have V:f≠0:=fun e=>by rw[e]at i;cases i
 obtain⟨f,rfl⟩:∃g,f=g+1:=⟨f-1,by omega⟩
 refine zc 5 (fun m=>?_) fun m=>?_
 ·have T:0<c:=by have:=A1 m;omega
  obtain⟨c,rfl⟩:∃g,c=g+1:=⟨c-1,by omega⟩
  rw[s9]at i;cases k:I9 ns w f d s1 sx with
  | none=>rw[k]at i;cases i
  | some y =>
   obtain⟨I,b⟩:=y;rw[k]at i;dsimp only at i;have K:=(u7 ns w f).2.2.2.1 _ _ _ _ _ _ _ i;rw[B48,List.length_singleton]at K;refine zz 8 ?_;refine H8 (IH f B3 d s1 sx I b k H B3 A0 A0 G) A0 A0 A0 ?_;rintro _ _ ⟨rfl,rfl⟩;refine zz 2 ?_;refine H8 (bT I ⟨1,⟨0,0,0,0⟩,b,z⟩ B3 A0 A0) A0 A0 A0 ?_;rintro _ _ ⟨rfl,rfl⟩;refine zz 6 ?_;refine⟨(f,c,(I.length:Int),I++[⟨1,⟨0,0,0,0⟩,b,z⟩]),⟨by dsimp only;omega,by dsimp only;omega,i⟩,by dsimp only;omega,?_⟩;dsimp only;rw[show (((n.Max-n.Min).toNat:Int)-(c:Int))=((n.Max-n.Min).toNat:Int)-((c+1:Nat):Int)+1 by omega];exact B13 lf (B1 A) jJ (C8 (L:=[(820,_),(821,_)]) ⟨rfl,rfl,trivial⟩ EP)
 have E:c=0:=by have:=A3 m;omega
 subst E;rw[s9]at i;cases i;refine zz 9 ?_;refine C2 (X:=Nat×Nat×Int×List AL.State) (fun x=>([(0,.s lE),(2,B7 x.2.2.1),(7,B7 d),(53,B7 n.Min),(54,B7 (n.Min-x.2.1))]++B5 [821,824] gf,[(820,lD ns w),(821,aV x.2.2.2)]++F9 [821,824] ob)) (fun x=>x.1<=F/\x.2.1<=n.Min.toNat/\t6 ns w x.1 d x.2.1 x.2.2.1 x.2.2.2=some (st',r)) (fun x=>x.2.1) (F,n.Min.toNat,P,C) ⟨Nat.le_refl _,Nat.le_refl _,M⟩ ?_ ?_
 ·dsimp only;rw[show n.Min-(n.Min.toNat:Int)=0 by omega];exact B13 lf (B1 A) jJ (C8 (L:=[(820,_),(821,_)]) ⟨rfl,rfl,trivial⟩ EP)
 rintro⟨f,c,s1,sx⟩ ⟨U,S,i⟩;dsimp only at U S i ⊢;have V:f≠0:=fun e=>by rw[e]at i;cases i
 obtain⟨f,rfl⟩:∃g,f=g+1:=⟨f-1,by omega⟩
 refine zc 5 (fun m=>?_) fun m=>?_
 ·have T:0<c:=by have:=A1 m;omega
  obtain⟨c,rfl⟩:∃g,c=g+1:=⟨c-1,by omega⟩
  rw[t6]at i;cases k:I9 ns w f d s1 sx with
  | none=>rw[k]at i;cases i
  | some y =>
   obtain⟨I,b⟩:=y;rw[k]at i;dsimp only at i;have K:=(u7 ns w f).2.2.2.2 _ _ _ _ _ _ i;refine zz 7 ?_;refine H8 (IH f B3 d s1 sx I b k H B3 A0 A0 G) A0 A0 A0 ?_;rintro _ _ ⟨rfl,rfl⟩;refine zz 6 ?_;refine⟨(f,c,b,I),⟨by dsimp only;omega,by dsimp only;omega,i⟩,by dsimp only;omega,?_⟩;dsimp only;rw[show (n.Min-(c:Int))=n.Min-((c+1:Nat):Int)+1 by omega];exact B13 lf (B1 A) jJ (C8 (L:=[(820,_),(821,_)]) ⟨rfl,rfl,trivial⟩ EP)
 have E:c=0:=by have:=A3 m;omega
 subst E;rw[t6]at i;cases i;refine zz 7 ?_;exact C7 (F1 rfl rfl) jJ (C8 (L:=[(820,_),(821,_)]) ⟨rfl,rfl,trivial⟩ EP) ⟨rfl,rfl⟩
theorem TZ{ns:List AL.Node}{w:List Int}{F:Nat}(hc:eF ns=0)(hkl:∀n∈ns,n.Kids.length<=4000)(be:w.length=ns.length)(IH:∀g,g<=F->BT ns w g):BT ns w (F+1):=by
 obtain⟨ba,bc,R⟩:=d6 hc;intro i next st st' r d hi V gf ob h0 h1 h2;obtain⟨n,hn⟩:∃n,n=ns[i.toNat]'B3:=⟨_,rfl⟩
 have Y:ns[i.toNat]?=some n:=by rw[hn];exact B44 B3
 obtain⟨ao,hX⟩:=x9 (R i.toNat n Y);have K:∀k∈n.Kids,0<=k/\k<ns.length:=fun k hk=>by have:=ao k hk;omega
 have ap:=hkl n (B52 Y);have aj:ns.getD i.toNat J6=n:=by rw[B46,Y];rfl
 have ax:w[i.toNat]?=some (H4 w i.toNat):=by unfold H4;rw[B44 B3];rfl
 have av:=(u7 ns w (F+1)).1 _ _ _ _ _ d;rw[I9,aj]at d;dsimp only at d;refine AL.Met.introH Tryz.func67 F2 rfl rfl rfl (fun Q=>?_);refine C1 (B14 821 (l:=[(0,.s lE),(1,.s (N8 i)),(2,.s (N8 next))]) (L:=[(820,_),(821,_)]) lf Q I8 ⟨h0,h1,trivial⟩) ?_;refine C1 (Sees.forget 824) ?_;have G:B6 (F9 [821,824] ob) 824=none:=Y5 h2;refine C1 (B13 (gf':=B5 [821,824] gf) (l:=[(0,.s lE),(1,.s (N8 i)),(2,.s (N8 next))]) (ob':=[(820,lD ns w),(821,aV st)]++F9 [821,824] ob) lf (B1 Q) jJ (C8 (L:=[(820,_),(821,_)]) ⟨rfl,rfl,trivial⟩ MS)) ?_;refine zz 12 ?_;refine B0 (A9 A0 (.pure _ _ _ _) A0 B3 ax) A0 ?_;refine zc 3 (fun q=>?_) fun q=>?_
 ·rw[A6 (A1 q)]at d;cases d;refine zz 6 ?_;exact C7 (F1 rfl rfl) jJ (C8 (L:=[(820,_),(821,_)]) ⟨rfl,rfl,trivial⟩ EP) ⟨rfl,rfl⟩
 rw[A7 (A3 q)]at d;refine zz 8 ?_;refine B0 (A9 A0 (.pure _ _ _ _) A0 B3 Y) A0 (zz 1 ?_);refine C4 (eP 824 G F2) A0 (zz 2 ?_);refine C1 (B31 (t:=7) (k:=824) (cs:=cellsOf N7 n 0 8) A0 A0 A0 A0) (C1 (B13 (gf':=B5 [821,824] gf) (l:=[(0,.s lE),(1,.s (N8 i)),(2,.s (N8 next)),(7,.s (.one (.eref Unit 8 (fun _ j=>(cellsOf N7 n 0 8).getD j (.v undef)) () 0)))]) (ob':=[(820,lD ns w),(821,aV st)]++F9 [821,824] ob) lf (B1 Q) jJ (C8 (L:=[(820,_),(821,_)]) ⟨rfl,rfl,trivial⟩ EP)) ?_);refine zc 12 (fun q=>?_) fun q=>?_
 ·have B:=A1 q;rw[A6 B]at d;cases d;refine zz 7 ?_;refine H8 (bT st ⟨0,n.Set,next,0⟩ (by simp only[B48,List.length_singleton]at V;omega) A0 A0) A0 A0 A0 ?_;rintro _ _ ⟨rfl,rfl⟩;refine zz 3 ?_;exact C7 (F1 rfl rfl) jJ (C8 (L:=[(820,_),(821,_)]) ⟨rfl,rfl,trivial⟩ EP) ⟨rfl,rfl⟩
 have ab:=A3 q;rw[A7 ab]at d;refine zc 5 (fun q=>?_) fun q=>?_
 ·have B:=A1 q;rw[A6 B]at d;cases d;refine zz 5 ?_;refine H8 (bT st ⟨2,⟨0,0,0,0⟩,next,0⟩ (by simp only[B48,List.length_singleton]at V;omega) A0 A0) A0 A0 A0 ?_;rintro _ _ ⟨rfl,rfl⟩;refine zz 3 ?_;exact C7 (F1 rfl rfl) jJ (C8 (L:=[(820,_),(821,_)]) ⟨rfl,rfl,trivial⟩ EP) ⟨rfl,rfl⟩
 have ac:=A3 q;rw[A7 ac]at d;refine zc 5 (fun q=>?_) fun q=>?_
 ·have B:=A1 q;rw[A6 B]at d;cases d;refine zz 5 ?_;refine H8 (bT st ⟨3,⟨0,0,0,0⟩,next,0⟩ (by simp only[B48,List.length_singleton]at V;omega) A0 A0) A0 A0 A0 ?_;rintro _ _ ⟨rfl,rfl⟩;refine zz 3 ?_;exact C7 (F1 rfl rfl) jJ (C8 (L:=[(820,_),(821,_)]) ⟨rfl,rfl,trivial⟩ EP) ⟨rfl,rfl⟩
 have ad:=A3 q;rw[A7 ad]at d;refine zc 5 (fun q=>?_) fun q=>?_
 ·have B:=A1 q;rw[A6 B]at d;refine zz 9 ?_;refine C2 (X:=Nat×Nat×Int×List AL.State) (fun x=>([(0,.s lE),(2,B7 x.2.2.1),(7,.s (.one (.eref Unit 8 (fun _ j=>(cellsOf N7 n 0 8).getD j (.v undef)) () 0))),(8,B7 ((x.2.1:Int)-1))]++B5 [821,824] gf,[(820,lD ns w),(821,aV x.2.2.2)]++F9 [821,824] ob)) (fun x=>x.1<=F/\x.2.1<=n.Kids.length/\aK ns w x.1 (n.Kids.take x.2.1).reverse x.2.2.1 x.2.2.2=some (st',r)) (fun x=>x.2.1) (F,n.Kids.length,next,st) ⟨Nat.le_refl _,Nat.le_refl _,by dsimp only;rw[B51];exact d⟩ ?_ ?_
  ·exact B13 lf (B1 Q) jJ (C8 (L:=[(820,_),(821,_)]) ⟨rfl,rfl,trivial⟩ EP)
  rintro⟨f,c,s1,sx⟩ ⟨hf,ah,A⟩;dsimp only at hf ah A ⊢;have az:f≠0:=fun e=>by rw[e]at A;cases A
  obtain⟨f,rfl⟩:∃g,f=g+1:=⟨f-1,by omega⟩
  refine zc 6 (fun q=>?_) fun q=>?_
  ·have ay:0<c:=by have:=A1 q;omega
   obtain⟨c,rfl⟩:∃g,c=g+1:=⟨c-1,by omega⟩
   obtain⟨M,am⟩:∃M,M=n.Kids[c]'B3:=⟨_,rfl⟩
   have C:n.Kids[c]?=some M:=by rw[am];exact B44 B3
   have U:n.Kids[(((c+1:Nat):Int)-1).toNat]?=some M:=by rw[show (((c+1:Nat):Int)-1).toNat=c by omega];exact C
   rw[taker C,aK]at A;cases m:I9 ns w f M s1 sx with
   | none=>rw[m]at A;cases A
   | some y =>
    obtain⟨sy,b⟩:=y;rw[m]at A;dsimp only at A;have bd:=(u7 ns w f).2.1 _ _ _ _ _ A;refine zz 8 ?_;refine B0 (A9 A0 (.pure _ _ _ _) A0 B3 U) A0 (zz 2 ?_);refine H8 (IH f B3 M s1 sx sy b m (K M (B52 C)) B3 A0 A0 G) A0 A0 A0 ?_;rintro _ _ ⟨rfl,rfl⟩;refine zz 7 ?_;refine⟨(f,c,b,sy),⟨by dsimp only;omega,by dsimp only;omega,A⟩,by dsimp only;omega,?_⟩;dsimp only;rw[show ((c:Int)-1)=(((c+1:Nat):Int)-1-1) by omega];exact B13 lf (B1 Q) jJ (C8 (L:=[(820,_),(821,_)]) ⟨rfl,rfl,trivial⟩ EP)
  have ai:c=0:=by have:=A3 q;omega
  subst ai;rw[List.take_zero,List.reverse_nil,aK]at A;cases A;refine zz 7 ?_;exact C7 (F1 rfl rfl) jJ (C8 (L:=[(820,_),(821,_)]) ⟨rfl,rfl,trivial⟩ EP) ⟨rfl,rfl⟩
 have ae:=A3 q;rw[A7 ae]at d;refine zc 5 (fun q=>?_) fun q=>?_
 ·have B:=A1 q;rw[A6 B]at d;cases J:n.Kids.reverse with
  | nil=>rw[J]at d;cases d
  | cons k kr =>
   rw[J]at d;dsimp only at d;cases m:I9 ns w F k next st with
   | none=>rw[m]at d;cases d
   | some y =>
    obtain⟨st1,s0⟩:=y;rw[m]at d;dsimp only at d;refine zz 6 ?_;refine H8 (TY IH n.Kids next st st1 st' s0 r k kr J K ap m d V A0 A0 G) A0 A0 A0 ?_;rintro _ _ ⟨rfl,rfl⟩;refine zz 3 ?_;exact C7 (F1 rfl rfl) jJ (C8 (L:=[(820,_),(821,_)]) ⟨rfl,rfl,trivial⟩ EP) ⟨rfl,rfl⟩
 have af:=A3 q;rw[A7 af]at d;refine zc 5 (fun q=>?_) fun q=>?_
 ·have B:=A1 q;rw[A6 B]at d;obtain⟨al,ar⟩:n.Kids.length=1/\0<=n.Min/\n.Min<=100/\(n.Max = -1\/n.Min<=n.Max/\n.Max<=100):=by omega
  obtain⟨z,I⟩:∃z,n.Kids=[z]:=by
   match hq:n.Kids,al with
   | [z],_=>exact⟨z,rfl⟩
  have an:n.Kids.getD 0 0=z:=by rw[I];rfl
  have S:n.Kids[(0:Int).toNat]?=some z:=by rw[I];rfl
  have T:=K z (B52 S);rw[an]at d;obtain⟨E,O,H,Z,aq,ak,aw,au⟩:∃(E:List AL.State) (O:Int) (H:List AL.State) (Z:Int),(n.Max<0->∃P a,I9 ns w F z st.length (st++[⟨1,⟨0,0,0,0⟩,0,next⟩])=some (P,a)/\E=P.set st.length { (P.getD st.length T7) with Next:=a }/\O=st.length)/\(¬n.Max<0->E=st/\O=next)/\s9 ns w F z (n.Max-n.Min).toNat O O E=some (H,Z)/\t6 ns w F z n.Min.toNat Z H=some (st',r):=by
   by_cases W:n.Max<0
   ·rw[A6 W]at d;cases m:I9 ns w F z st.length (st++[⟨1,⟨0,0,0,0⟩,0,next⟩]) with
    | none=>erw [m]at d;cases d
    | some y =>
     obtain⟨P,a⟩:=y
     erw [m]at d
     dsimp only at d;have hF:F≠0:=fun e=>by rw[e]at m;cases m
     obtain⟨F',rfl⟩:∃g,F=g+1:=⟨F-1,by omega⟩
     refine⟨_,_,_,_,fun _=>⟨P,a,rfl,rfl,rfl⟩,fun h=>absurd W h,?_,d⟩;rw[show (n.Max-n.Min).toNat=0 by omega];rfl
   ·rw[A7 W]at d;cases m:s9 ns w F z (n.Max-n.Min).toNat next next st with
    | none=>rw[m]at d;cases d
    | some y =>
     obtain⟨P,a⟩:=y;rw[m]at d;dsimp only at d;exact⟨_,_,_,_,fun h=>absurd h W,fun _=>⟨rfl,rfl⟩,m,d⟩
  refine zz 5 ?_;refine H8 (OY IH n z next st E H st' O Z r S T ar aq ak aw au V A0 A0 G) A0 A0 A0 ?_;rintro _ _ ⟨rfl,rfl⟩;refine zz 3 ?_;exact C7 (F1 rfl rfl) jJ (C8 (L:=[(820,_),(821,_)]) ⟨rfl,rfl,trivial⟩ EP) ⟨rfl,rfl⟩
 have ag:=A3 q;rw[A7 ag]at d;cases d;refine zz 7 ?_;exact C7 (F1 rfl rfl) jJ (C8 (L:=[(820,_),(821,_)]) ⟨rfl,rfl,trivial⟩ EP) ⟨rfl,rfl⟩
theorem rO{ns:List AL.Node}{w:List Int}(b:eF ns=0)(hkl:∀n∈ns,n.Kids.length<=4000)(a:w.length=ns.length):∀F,∀g,g<=F->BT ns w g
 | 0,g,hg=>by
  obtain rfl:g=0:=by omega
  intro i next st st' r c;cases c
 | F+1,g,hg=>by
  rcases Nat.lt_or_ge g (F+1) with h | h
  ·exact rO b hkl a F g B3
  ·obtain rfl:g=F+1:=by omega
   exact TZ b hkl a (rO b hkl a F)
abbrev lF:PV:=.agg [.v (.slice none 0 0),.v (.int .i64 0)]
theorem BU(L:List AL.Node)(st:List AL.State)(r:Int)(F:Nat)(b:eF L=0)(hkl:∀n∈L,n.Kids.length<=4000)(p:pV L<=4000)(hb:I9 L (D9 L) F ((L.length:Int)-1) 0 [⟨4,⟨0,0,0,0⟩,0,0⟩]=some (st,r))(d:st.length<=20000) :
  FnOk Tryz.prog 36 [N9 L] (fun rs=>rs=[iJ ⟨st,r⟩,D3 0]):=by
 obtain⟨i,j,m⟩:=d6 b;have f:(D9 L).length=L.length:=by rw[<-lB];exact oV L _
 refine FnOk.intro Tryz.func36 F2 A0 A0 A0 A0 (zz 2 ?_);refine C4 (H9 2 A0) A0 (zz 5 ?_);refine E3 (xM L b hkl) ?_;refine zc 14 (fun a=>?_) fun a=>?_
 ·cases a
 refine zc 6 (fun a=>?_) fun a=>?_
 ·have:=A1 a;omega
 refine zz 5 ?_;refine E3 (xL L b hkl) (zz 1 ?_);refine C4 (n8 820 A0 A0 A0) A0 (zz 2 ?_);refine C1 (B19 821 AL.State 7 gB 121 (kb:=820) (o:=2) A0 A0 A0) (zz 4 ?_);refine H8 (bT [] ⟨4,⟨0,0,0,0⟩,0,0⟩ F2 A0 A0) A0 A0 A0 ?_;rintro _ _ ⟨rfl,rfl⟩;refine zz 9 ?_;refine H8 (rO b hkl f F F (Nat.le_refl _) ((L.length:Int)-1) 0 [⟨4,⟨0,0,0,0⟩,0,0⟩] st r hb ⟨by omega,by omega⟩ d A0 A0 A0) A0 A0 A0 ?_;rintro _ _ ⟨rfl,rfl⟩;refine zz 13 ?_;refine C1 (Sees.freezeG (k:=821) (α:=AL.State) (ec:=7) (c:=gB) (xs:=st) (e:=121) A0 A0) (k10 ?_);exact B2 (rs:=[iJ ⟨st,r⟩,D3 0]) (zX rfl rfl rfl rfl rfl rfl rfl) rfl
theorem UA(L:List AL.Node)(b:eF L=0)(hkl:∀n∈L,n.Kids.length<=4000)(c:pV L>4000):FnOk Tryz.prog 36 [N9 L] (fun rs=>rs=[lF,D3 1]):=by
 refine FnOk.intro Tryz.func36 F2 A0 A0 A0 A0 (zz 2 ?_);refine C4 (H9 2 A0) A0 (zz 5 ?_);refine E3 (xM L b hkl) ?_;refine zc 14 (fun a=>?_) fun a=>?_
 ·cases a
 refine zc 6 (fun a=>?_) fun a=>?_;rotate_left
 ·have:=A3 a;omega
 refine zz 7 ?_;exact B2 (rs:=[lF,D3 1]) (zX rfl rfl rfl rfl rfl rfl rfl) rfl
theorem xP(p:Str)(L:List AL.Node)(A:AL.Auto)(b:FnOk Tryz.prog 35 [F3 p] (fun rs=>rs=[N9 L,D3 0]))(hb:FnOk Tryz.prog 36 [N9 L] (fun rs=>rs=[iJ A,D3 0])) :
  FnOk Tryz.prog 21 [F3 p] (fun rs=>rs=[iJ A,D3 0]):=by
 refine FnOk.intro Tryz.func21 F2 A0 A0 A0 A0 (zz 2 ?_);refine C4 (H9 2 A0) A0 (zz 5 ?_);refine E3 (b) ?_;refine zc 12 (fun a=>?_) fun a=>?_
 ·cases a
 refine zz 4 ?_;refine E3 (hb) (zz 6 ?_);exact B2 (rs:=[iJ A,D3 0]) (zX rfl rfl rfl rfl rfl rfl rfl) rfl
theorem nQ{x:Int}(l:0<=x/\x<18446744073709551616)(c:Nat):IntKind.u64.wrap ((BitVec.ofInt IntKind.u64.bits x ||| BitVec.ofInt IntKind.u64.bits (IntKind.u64.wrap (1*2 ^ (min ((c:Int).tmod 64).toNat IntKind.u64.bits)))).toNat:Int)=IK x (2 ^ (c % 64)):=by
 obtain⟨p,f⟩:∃p:Nat,p=2 ^ (c % 64):=⟨_,rfl⟩
 have e:p<2 ^ 64:=by rw[f];exact Nat.pow_lt_pow_right F2 (Nat.mod_lt _ F2)
 have k:p<18446744073709551616:=e;have g:((2:Int) ^ (c % 64))=(p:Int):=by rw[f];simp
 have h:IntKind.u64.wrap (1*2 ^ (c % 64))=(p:Int):=by
  rw[Int.one_mul,g];exact VJ ⟨by omega,by omega⟩
 rw[YI,h,g];have b:=Nat.or_lt_two_pow (x:=x.toNat) (y:=p) (n:=64) (show x.toNat<18446744073709551616 by omega) e;have j:x.toNat ||| p<18446744073709551616:=b;have i:(BitVec.ofInt IntKind.u64.bits x ||| BitVec.ofInt IntKind.u64.bits (p:Int)).toNat=x.toNat ||| p:=by
  rw[BitVec.toNat_or,BitVec.toNat_ofInt,BitVec.toNat_ofInt,show ((2 ^ IntKind.u64.bits:Nat):Int)=18446744073709551616 by rfl];rw[show (x % 18446744073709551616).toNat=x.toNat by omega,show ((p:Int) % 18446744073709551616).toNat=p by omega]
 rw[i,VJ ⟨by omega,by omega⟩];unfold IK;rw[B45]
theorem tQ(z:Set4)(f:M8 z)(c:UInt8):FnOk Tryz.prog 224 [Q5 z,pByte c] (fun rs=>rs=[Q5 (z.with_ c.toNat)]):=by
 obtain⟨g,h,z3,z4⟩:=f;have a:c.toNat / 64=0\/c.toNat / 64=1\/c.toNat / 64=2\/c.toNat / 64=3:=by have:=c.toNat_lt;omega
 have e:0<=(c.toNat:Int).tmod 64:=Int.tmod_nonneg _ B3;refine FnOk.intro Tryz.func224 F2 A0 A0 A0 A0 (zz 2 ?_);refine C4 (n8 2 A0 A0 A0) A0 (C4 (H9 4 A0) A0 (zz 2 ?_));rcases a with a | a | a | a
 all_goals
  have b:=YH c.toNat_lt a;refine zz 3 ?_;refine B0 (T4 A0 A0 (b) F2) A0 (zz 3 ?_);refine B0 (n_shl A0 A0 (by (exact e))) A0 ?_;refine zz 1 ?_;refine B0 (T4 A0 A0 (b) F2) A0 (zz 8 ?_);refine B2 (retc A0 A0 A0 A0 A0) ?_;unfold Set4.with_;rw[a];simp only[nQ g,nQ h,nQ z3,nQ z4]
theorem j1:M8 set0:=⟨⟨by decide,by decide⟩,⟨by decide,by decide⟩,⟨by decide,by decide⟩,⟨by decide,by decide⟩⟩
theorem UB{gf:Fr}{ob:Obs}(s:Str)(a d:Nat)(l:List AL.Node)(b:Int)(j:l.length<=1000)(f:B6 ob 810=some (pU s a d))(g:B6 ob 811=some (dD l)) :
  AL.Met Tryz.prog 106 [G8,N8 b,.one (.p (.list Int 1 D2 []))] gf ob [811] (fun k ob'=>k=[N8 l.length]/\ob'=(810,pU s a d)::(811,dD (l++[J6]))::Obs.forget 811 ob):=by
 refine AL.Met.introH Tryz.func106 F2 rfl rfl rfl (fun h=>?_);refine C1 (B14 811 (l:=[(0,.s G8),(1,.s (N8 b)),(2,B8 Int 1 D2 [])]) (L:=[(810,_),(811,_)]) lf h I8 ⟨f,g,trivial⟩) ?_;refine zc 16 (fun c=>?_) fun c=>?_;rotate_left
 ·exact absurd rfl (A3 c)
 refine zz 4 ?_;refine fF ((B16 Int 1 D2 12 7 A0 A0)) (H8 (tL s a d l J6 j A0 A0) A0 A0 A0 ?_);rintro _ _ ⟨rfl,rfl⟩;refine zz 3 ?_;exact C7 (F1 rfl rfl) b5w (C8 (L:=[(810,_),(811,_)]) ⟨rfl,rfl,trivial⟩ b9w) ⟨rfl,rfl⟩
theorem gD{s:Str}{i:Nat}(h:i<s.length):s[i]?=some (s.getD i 0):=by simp[h]
def oX(s:Str)(i:Nat):Bool:=decide ((i<s.length/\48<=(s.getD i 0).toNat)/\(s.getD i 0).toNat<=57)
theorem UC(s:Str)(i:Nat):oX s i=match s[i]? with | some c=>oH c | none=>false:=by
 unfold oX oH;by_cases h:i<s.length
 ·rw[gD h];simp[h]
 ·rw[B56 B3];simp[h]
theorem digs_le(s:Str)(i:Nat):(M5 (s.drop i)).length<=s.length-i:=by
 unfold M5;have:=(List.takeWhile_sublist oH (l:=s.drop i)).length_le;rw[B53]at this;exact this
theorem tR{p:UInt8->Bool}:∀(s:Str) (k:Nat),k<=(s.takeWhile p).length->(match s[k]? with | some c=>p c | none=>false)=decide (k<(s.takeWhile p).length)
 | [],k,h=>by simp at h ⊢
 | c::r,0,h=>by by_cases a:p c=true<;>simp[List.takeWhile_cons,a]
 | c::r,k+1,h=>by
  by_cases a:p c=true
  ·rw[List.takeWhile_cons,A6 a,B49]at h ⊢;have:=tR (p:=p) r k B3;rw[List.getElem?_cons_succ,this];simp
  ·rw[List.takeWhile_cons,A7 a]at h;simp at h
theorem qP{p:UInt8->Bool}:∀(s:Str) (k:Nat),k<(s.takeWhile p).length->s[k]?=(s.takeWhile p)[k]?
 | [],k,h=>by simp at h
 | c::r,k,h=>by
  by_cases a:p c=true
  ·rw[List.takeWhile_cons,A6 a]at h ⊢;cases k with
   | zero=>rfl
   | succ k=>rw[List.getElem?_cons_succ,List.getElem?_cons_succ];exact qP (p:=p) r k (by simpa using h)
  ·rw[List.takeWhile_cons,A7 a]at h;simp at h
theorem vW(s:Str)(i k:Nat)(h:k<=(M5 (s.drop i)).length):oX s (i+k)=decide (k<(M5 (s.drop i)).length):=by
 rw[UC,<-B58];exact tR (s.drop i) k h
theorem vX{s:Str}{i k:Nat}(h:k<(M5 (s.drop i)).length):s[i+k]?=some ((M5 (s.drop i)).getD k 0)/\48<=((M5 (s.drop i)).getD k 0).toNat/\((M5 (s.drop i)).getD k 0).toNat<=57 /\
  aJ ((M5 (s.drop i)).take (k+1))=10*aJ ((M5 (s.drop i)).take k)+(((M5 (s.drop i)).getD k 0).toNat-48):=by
 have d:s[i+k]?=(M5 (s.drop i))[k]?:=by rw[<-B58];exact qP _ _ h
 have c:=gD h;have b:oH ((M5 (s.drop i)).getD k 0)=true:=by
  have m:(M5 (s.drop i)).getD k 0∈(s.drop i).takeWhile oH:=B52 c;exact List.all_eq_true.1 List.all_takeWhile _ m
 unfold oH at b;have b:=A1 b;refine⟨by rw[d,c],b.1,b.2,?_⟩;obtain⟨j,f⟩:=List.getElem?_eq_some_iff.1 c;rw[B76 j,A23,f]
theorem OZ(n:Nat)(h:48<=n)(b:n<=57):IntKind.i64.wrap (IntKind.u8.wrap ((n:Int)-48))=((n-48:Nat):Int):=by
 have:∀k:Fin 10,IntKind.i64.wrap (IntKind.u8.wrap (((k.1+48:Nat):Int)-48))=((k.1:Nat):Int):=by decide
 have a:=this ⟨n-48,by omega⟩;dsimp only at a;rw[show n-48+48=n by omega]at a;exact a
def rP(s:Str)(i:Nat):List PV:=match dQ (s.drop i) with
 | none=>[D3 0,D3 0,E1 false]
 | some (n,k)=>[D3 n,D3 ((i+k:Nat):Int),E1 true]
theorem ZT{s:Str}{n k:Nat}(h:dQ s=some (n,k)):k=(M5 s).length/\n=aJ (M5 s)/\0<k/\k<=s.length/\n<=2147483647:=by
 unfold dQ at h;split at h
 ·cases h
 ·rename_i a;cases h;have b:M5 s≠[]:=fun e=>a (.inl e);have c:=List.length_pos_iff.2 b;have d:(M5 s).length<=s.length:=by unfold M5;exact (List.takeWhile_sublist oH).length_le
  refine⟨rfl,rfl,c,d,?_⟩;by_cases f:aJ (M5 s)<=2147483647
  ·exact f
  ·exact absurd (.inr (.inr B3)) a
theorem HA(s:Str)(i:Nat):FnOk Tryz.prog 246 [F3 s,D3 i] (fun rs=>rs=[E1 (oX s i)]):=by
 refine FnOk.intro Tryz.func246 F2 A0 A0 A0 A0 (zz 13 ?_);refine F7 A0 A0 A0 A0 (fun a=>by have b:=a;(try simp at b);rw[a];exact G9 A0 A0 B3 (gD B3)) ?_;refine zz 5 ?_;refine F7 A0 A0 A0 A0 (fun a=>by have b:=a;(try simp at b);rw[a];exact G9 A0 A0 B3 (gD B3)) ?_;refine zz 5 ?_;refine B2 (G6 A0 A0 A0) ?_;simp only[N1];unfold oX
 congr 4
 congr 1
 simp;omega
theorem UD(s:Str)(i:Nat)(Y:i<=s.length)(Z:s.length<=1073741824):FnOk Tryz.prog 240 [F3 s,D3 i] (fun rs=>rs=rP s i):=by
 obtain⟨b,f⟩:∃b,b=M5 (s.drop i):=⟨_,rfl⟩
 have M:=digs_le s i;have I:=vW s i 0 (Nat.zero_le _);rw[Nat.add_zero]at I;rw[<-f]at M I;refine FnOk.intro Tryz.func240 F2 A0 A0 A0 A0 (zz 14 ?_);refine F7 A0 A0 A0 A0 (fun u=>by have C:=u;(try simp at C);rw[u];exact K4 (HA s i) A0 A0) ?_;refine zz 3 ?_;rw[I];refine zz 0 ?_;by_cases P:b.length=0
 ·refine zc 0 (fun j=>?_) fun j=>?_;rotate_left
  ·exfalso;revert j;simp[P]
  refine zz 7 ?_;refine B2 (rs:=[D3 0,D3 0,E1 false]) (zW A0 A0 A0 A0 A0 A0 A0) ?_;unfold rP dQ;rw[<-f,A6 (.inl (List.length_eq_zero_iff.1 P))]
 refine zc 0 (fun j=>?_) fun j=>?_
 ·exfalso;revert j;simp[show 0<b.length by omega]
 refine zz 9 ?_;refine C2 (X:=Nat) (fun k=>([(0,Q6 s),(1,B7 i),(7,B7 ((min (aJ (b.take k)) 2147483648:Nat):Int)),(8,B7 ((i+k:Nat):Int))],[])) (fun k=>k<=b.length) (fun k=>b.length-k) 0 (Nat.zero_le _) (Sees.of lf lo) ?_;intro k R;dsimp only at R ⊢;have w:=vW s i k (by rw[<-f];exact R);rw[<-f]at w;refine zz 5 ?_;refine E3 (HA s (i+k)) (zz 1 ?_);rw[w];refine zc 0 (fun j=>?_) fun j=>?_
 ·have A:k<b.length:=A1 j;obtain⟨g1,F,G,H⟩:=vX (s:=s) (i:=i) (k:=k) (by rw[<-f];exact A);rw[<-f]at g1 F G H;obtain⟨c,U⟩:∃c,c=b.getD k 0:=⟨_,rfl⟩
  rw[<-U]at g1 F G H;obtain⟨v,O⟩:∃v,v=min (aJ (b.take k)) 2147483648:=⟨_,rfl⟩
  have V:v<=2147483648:=by omega
  have B:min (aJ (b.take (k+1))) 2147483648=min (10*v+(c.toNat-48)) 2147483648:=by rw[H];omega
  rw[<-O];have x:=OZ c.toNat F G;refine zz 8 ?_;refine B0 (G9 A0 A0 B3 g1) A0 (B0 (JA A0 A0) A0 (zz 1 ?_));refine B0 (Y6 A0 A0 (by (rw[x];omega))) A0 ?_;refine zz 8 ?_;refine⟨k+1,A,by omega,?_⟩;rw[B];refine Sees.of ⟨⟨_,rfl,.same _⟩,⟨_,rfl,.same _⟩,⟨_,rfl,.eq ?_⟩,⟨_,rfl,.eq ?_⟩,trivial⟩ trivial
  ·rw[x]
   congr 6
   split<;>omega
  ·congr 6
 ·have L:k=b.length:=by have:¬k<b.length:=A3 j;omega
  subst L;rw[B51];have D:i<s.length:=by omega
  refine zz 9 ?_;refine F7 A0 A0 A0 A0 (fun u=>by have C:=u;(try simp at C);rw[u];exact G9 A0 A0 B3 (gD D)) ?_;refine zz 4 ?_;refine J5 A0 A0 A0 (.gd (.val _)) A0 (fun u=>by have C:=u;(try simp at C);obtain⟨y,z⟩:=P9 u;(try rw[y]);(try rw[z]);exact Y6 A0 A0 B3) ?_;refine J5 A0 A0 A0 (.gd (.val _)) A0 (fun u=>by obtain⟨y,z⟩:=P9 u;(try rw[y]);(try rw[z]);exact MX A0 A0) ?_;refine zz 3 ?_;have K:(s.drop i).head?=some (s.getD i 0):=by rw[List.head?_drop,gD D]
  simp only[N1,or_pick];have p:(M5 (s.drop i)=[]\/((s.drop i).head?=some 48/\1<(M5 (s.drop i)).length)\/2147483647<aJ (M5 (s.drop i)))↔(2147483647<((min (aJ b) 2147483648:Nat):Int)\/(((s.getD i 0).toNat:Int)=48/\(i:Int)+1<((i+b.length:Nat):Int))):=by
   rw[<-f,K];have S:b≠[]:=fun e=>P (by rw[e];rfl);have T:(some (s.getD i 0)=some 48)↔((s.getD i 0).toNat:Int)=48:=by
    rw[Option.some.injEq,<-UInt8.toNat_inj];have:(48:UInt8).toNat=48:=rfl;omega
   simp only[S,false_or,T];omega
  refine zc 0 (fun j=>?_) fun j=>?_
  ·have E:=A1 j;refine zz 7 ?_;refine B2 (rs:=[D3 0,D3 0,E1 false]) (zW A0 A0 A0 A0 A0 A0 A0) ?_;unfold rP dQ;rw[A6 (p.2 (by first | exact E | simpa using E))]
  ·have E:=A3 j;have J:¬(M5 (s.drop i)=[]\/((s.drop i).head?=some 48/\1<(M5 (s.drop i)).length)\/2147483647<aJ (M5 (s.drop i))):=fun Q=>E (by first | exact p.1 Q | simpa using p.1 Q);refine zz 10 ?_;refine B2 (rs:=[D3 ((min (aJ b) 2147483648:Nat):Int),D3 ((i+b.length:Nat):Int),E1 true]) (zW A0 A0 A0 A0 A0 A0 A0) ?_;unfold rP dQ;rw[A7 J,<-f];have W:aJ b<=2147483647:=by
    rw[<-f]at J;by_cases O:aJ b<=2147483647
    ·exact O
    ·exact absurd (.inr (.inr B3)) J
   rw[show min (aJ b) 2147483648=aJ b by omega]
theorem BV(s:Str)(i:Nat)(V:i<=s.length)(W:s.length<=1073741824):FnOk Tryz.prog 220 [F3 s,D3 i] (fun rs=>rs=rP s i):=by
 obtain⟨b,f⟩:∃b,b=M5 (s.drop i):=⟨_,rfl⟩
 have K:=digs_le s i;rw[<-f]at K;have A:0<b.length->(s.drop i).head?=some (s.getD i 0):=fun h=>by rw[List.head?_drop,gD B3]
 have y:((s.getD i 0).toNat:Int)=48↔s.getD i 0=48:=by
  rw[<-UInt8.toNat_inj];have:(48:UInt8).toNat=48:=rfl;omega
 refine FnOk.intro Tryz.func220 F2 A0 A0 A0 A0 ?_;refine zc 18 (fun m=>?_) fun m=>?_
 ·exfalso;revert m;simp only[or_pick];simp;omega
 refine zz 9 ?_;refine C2 (X:=Nat) (fun k=>([(0,Q6 s),(1,B7 i),(7,B7 (aJ (b.take k):Int)),(8,B7 ((i+k:Nat):Int))],[])) (fun k=>k<=b.length/\aJ (b.take k)<=2147483647/\(1<k->s.getD i 0≠48)) (fun k=>b.length-k) 0 ⟨Nat.zero_le _,by simp[aJ],by omega⟩ (Sees.of lf lo) ?_;rintro k ⟨M,O,z⟩;dsimp only at M O z ⊢;have q:=vW s i k (by rw[<-f];exact M);rw[<-f]at q;unfold oX at q;refine zz 10 ?_;refine F7 A0 A0 A0 A0 (fun v=>by have C:=v;(try simp at C);rw[v];exact G9 A0 A0 B3 (gD B3)) ?_;refine zz 5 ?_;refine F7 A0 A0 A0 A0 (fun v=>by have C:=v;(try simp at C);rw[v];exact G9 A0 A0 B3 (gD B3)) ?_;refine zz 3 ?_;simp only[N1];have u:decide (((((i+k:Nat):Int)<(s.length:Int))/\(48:Int)<=((s.getD (i+k) 0).toNat:Int))/\((s.getD (i+k) 0).toNat:Int)<=57)=decide (k<b.length):=by
  rw[<-q]
  congr 1
  simp;omega
 refine zc 0 (fun m=>?_) fun m=>?_
 ·have S:=m;have B:k<b.length:=by
   have p:=A1 m;refine A1 (u ▸ ?_);exact A4 (by first | exact p | simpa using p)
  obtain⟨g1,E,F,G⟩:=vX (s:=s) (i:=i) (k:=k) (by rw[<-f];exact B);rw[<-f]at g1 E F G;obtain⟨c,Q⟩:∃c,c=b.getD k 0:=⟨_,rfl⟩
  rw[<-Q]at g1 E F G;have w:=OZ c.toNat E F;have I:i<s.length:=by omega
  refine zz 11 ?_;refine F7 A0 A0 A0 A0 (fun v=>by have C:=v;(try simp at C);rw[v];exact G9 A0 A0 B3 (gD I)) ?_;refine zz 3 ?_;simp only[N1];refine zc 0 (fun m=>?_) fun m=>?_
  ·have p:=A1 m;have p:0<k/\s.getD i 0=48:=⟨by omega,y.1 p.2⟩
   refine zz 7 ?_;refine B2 (rs:=[D3 0,D3 0,E1 false]) (zW A0 A0 A0 A0 A0 A0 A0) ?_;unfold rP dQ;rw[<-f,A6 (.inr (.inl ⟨by rw[A B3,p.2],by omega⟩))]
  ·have p:=A3 m;have p:0<k->s.getD i 0≠48:=fun H D=>p ⟨by omega,y.2 D⟩;refine zz 7 ?_;refine B0 (G9 A0 A0 B3 g1) A0 (B0 (JA A0 A0) A0 (zz 1 ?_));refine B0 (Y6 A0 A0 (by (rw[w];omega))) A0 ?_;refine zz 2 ?_;rw[w,show 10*((aJ (b.take k):Nat):Int)+((c.toNat-48:Nat):Int)=((aJ (b.take (k+1)):Nat):Int) by rw[G];omega];refine zc 6 (fun m=>?_) fun m=>?_
   ·have H:(2147483647:Int)<((aJ (b.take (k+1)):Nat):Int):=A1 m;refine zz 7 ?_;refine B2 (rs:=[D3 0,D3 0,E1 false]) (zW A0 A0 A0 A0 A0 A0 A0) ?_;have x:∀j,k+1<=j->j<=b.length->aJ (b.take (k+1))<=aJ (b.take j):=by
     intro j;induction j with
     | zero=>intro h;omega
     | succ j T =>
      intro D U;by_cases R:k+1=j+1
      ·rw[R];exact Nat.le_refl _
      ·have:=T B3 B3;obtain⟨_,_,_,g⟩:=vX (s:=s) (i:=i) (k:=j) (by rw[<-f];omega);rw[<-f]at g;omega
    have D:=x b.length B3 (Nat.le_refl _);rw[B51]at D;unfold rP dQ;rw[<-f,A6 (.inr (.inr B3))]
   ·have H:¬(2147483647:Int)<((aJ (b.take (k+1)):Nat):Int):=A3 m;refine zz 6 ?_;refine⟨k+1,⟨B,by omega,fun _=>p B3⟩,by omega,?_⟩;rw[show ((i+(k+1):Nat):Int)=((i+k:Nat):Int)+1 by omega];exact Sees.of lf lo
 ·have J:k=b.length:=by
   have p:=A3 m;have H:¬k<b.length:=by
    refine A3 (u ▸ ?_);exact A5 (by first | exact p | simpa using p)
   omega
  subst J;rw[B51]at O ⊢;refine zc 8 (fun m=>?_) fun m=>?_
  ·have L:b.length=0:=by have:=A1 m;omega
   refine zz 7 ?_;refine B2 (rs:=[D3 0,D3 0,E1 false]) (zW A0 A0 A0 A0 A0 A0 A0) ?_;unfold rP dQ;rw[<-f,A6 (.inl (List.length_eq_zero_iff.1 L))]
  ·have L:b.length≠0:=by have:=A3 m;omega
   refine zz 10 ?_;refine B2 (rs:=[D3 (aJ b:Int),D3 ((i+b.length:Nat):Int),E1 true]) (zW A0 A0 A0 A0 A0 A0 A0) ?_;unfold rP dQ;rw[<-f,A7];rintro (h | ⟨h,P⟩ | h)
   ·exact L (by rw[h];rfl)
   ·rw[A B3]at h;exact z P (Option.some.inj h)
   ·omega
def octOk(c:UInt8):Prop:=48<=c.toNat/\c.toNat<=55
def PA(s:Str)(i q:Nat):Prop:=i+q<s.length/\octOk (s.getD (i+q) 0)
instance (s:Str) (i q:Nat):Decidable (PA s i q):=by unfold PA octOk;exact inferInstance
theorem FJ(s p:Str):FnOk Tryz.prog 247 [F3 s,F3 p] (fun rs=>rs=[E1 (decide (s.take p.length=p))]):=by
 refine FnOk.intro Tryz.func247 F2 A0 A0 A0 A0 (zz 15 ?_);refine F7 A0 A0 A0 A0 (fun a=>by have b:=a;(try simp at b);rw[a];exact JD A0 A0 B3 B3) ?_;refine zz 1 ?_;refine F7 A0 A0 A0 A0 (fun a=>by rw[a];exact WW A0 A0) ?_;refine zz 3 ?_;simp only[N1,B45];refine zz 1 ?_;refine B2 (G6 A0 A0 A0) ?_
 congr 4
 congr 1
 apply propext;constructor
 ·intro h;exact h.2
 ·intro h;refine⟨?_,h⟩;have:=congrArg List.length h;rw[B54]at this;omega
def UE(s p:Str):List PV:=if s.take p.length=p then [F3 (s.drop p.length),E1 true] else [F3 s,E1 false]
theorem FK(s p:Str):FnOk Tryz.prog 244 [F3 s,F3 p] (fun rs=>rs=UE s p):=by
 refine FnOk.intro Tryz.func244 F2 A0 A0 A0 A0 (zz 10 ?_);refine E3 (FJ s p) ?_;refine zc 2 (fun a=>?_) fun a=>?_
 ·have h:¬s.take p.length=p:=by intro h;rw[A4 h]at a;cases a
  refine zz 7 ?_;exact B2 (rs:=[F3 s,E1 false]) (S6 rfl rfl rfl rfl rfl) (by unfold UE;rw[A7 h])
 ·have h:s.take p.length=p:=by
   by_cases h:s.take p.length=p
   ·exact h
   ·rw[A5 h]at a;cases a
  have b:p.length<=s.length:=by
   have:=congrArg List.length h;rw[B54]at this;omega
  refine zz 6 ?_;refine B0 (kL A0 A0 B3 B3) A0 (zz 4 ?_);exact B2 (rs:=[F3 (s.drop p.length),E1 true]) (S6 rfl rfl rfl rfl rfl) (by unfold UE;rw[A6 h])
theorem KM(s p:Str):FnOk Tryz.prog 236 [F3 s,F3 p] (fun b=>b=UE s p):=by
 have a:=FK s p;unfold UE at a ⊢;by_cases h:s.take p.length=p
 ·rw[A6 h]at a ⊢;refine FnOk.intro Tryz.func236 F2 A0 A0 A0 A0 (zz 9 ?_);refine E3 (a) (zz 6 ?_);exact B2 (S6 rfl rfl rfl rfl rfl) rfl
 ·rw[A7 h]at a ⊢;refine FnOk.intro Tryz.func236 F2 A0 A0 A0 A0 (zz 9 ?_);refine E3 (a) (zz 6 ?_);exact B2 (S6 rfl rfl rfl rfl rfl) rfl
theorem A74(z:Set4)(f:M8 z)(n:Int)(g:0<=n)(h:n<=255):FnOk Tryz.prog 224 [Q5 z,.one (.v (.int .u8 n))] (fun rs=>rs=[Q5 (z.with_ n.toNat)]):=by
 have b:=tQ z f (UInt8.ofNat n.toNat);have c:(UInt8.ofNat n.toNat).toNat=n.toNat:=by rw[UInt8.toNat_ofNat'];omega
 rw[c]at b;have d:((n.toNat:Nat):Int)=n:=by omega
 rwa[show pByte (UInt8.ofNat n.toNat)=.one (.v (.int .u8 n)) by show PV.one (.v (.int .u8 ((UInt8.ofNat n.toNat).toNat:Int)))=_;rw[c,d]]at b
theorem XM{n:Int}(a:0<=n)(b:n<=255):IntKind.u8.wrap n=n:=by simp[IntKind.wrap,IntKind.signed,IntKind.bits];omega
theorem BW(z:Set4)(C:M8 z)(a b:UInt8)(y:a.toNat<=b.toNat):FnOk Tryz.prog 239 [Q5 z,pByte a,pByte b] (fun rs=>rs=[Q5 (z.through a.toNat b.toNat)]):=by
 have ha:=a.toNat_lt;have hb:=b.toNat_lt;refine FnOk.intro Tryz.func239 F2 A0 A0 A0 A0 (zz 2 ?_);refine C4 (n8 3 A0 A0 A0) A0 (C4 (H9 6 A0) A0 (zz 5 ?_));refine B0 (X6 A0 (cU B3)) A0 (zz 3 ?_);refine C2 (X:=Nat) (fun i=>([(2,.s (b8 b)),(3,.s (.one (.ref 3 0))),(6,.s (.one (.ref 6 0))),(7,B7 ((a.toNat:Int)+i))],[(3,.box [.p (.v (.int .u64 (M7 i a.toNat z).a)),.p (.v (.int .u64 (M7 i a.toNat z).b)),.p (.v (.int .u64 (M7 i a.toNat z).c)),.p (.v (.int .u64 (M7 i a.toNat z).d))]),(6,.box [.p (.v (.int .u64 0)),.p (.v (.int .u64 0)),.p (.v (.int .u64 0)),.p (.v (.int .u64 0))])])) (fun i=>i<=b.toNat+1-a.toNat) (fun i=>b.toNat+1-a.toNat-i) 0 (Nat.zero_le _) ?_ ?_
 ·rw[show (a.toNat:Int)+((0:Nat):Int)=(a.toNat:Int) by omega];exact Sees.of lf lo
 intro i A;dsimp only at A ⊢;have l:=bE i a.toNat C;have h:=fY i a.toNat z;obtain⟨w,m⟩:∃w,w=M7 i a.toNat z:=⟨_,rfl⟩
 rw[<-m]at l h ⊢;refine zz 5 ?_;refine B0 (X6 A0 (cU B3)) A0 ?_;refine zc 2 (fun k=>?_) fun k=>?_
 ·have B:=A1 k;have q:((a.toNat:Int)+(i:Int)).toNat=a.toNat+i:=by omega
  refine zz 6 ?_;refine B0 (X6 A0 (XM B3 B3)) A0 (E3 (A74 w l ((a.toNat:Int)+(i:Int)) B3 B3) (zz 2 ?_));rw[q,<-h];refine zz 5 ?_;refine⟨i+1,by omega,by omega,?_⟩;rw[show (a.toNat:Int)+((i+1:Nat):Int)=(a.toNat:Int)+(i:Int)+1 by omega];exact Sees.of lf lo
 have j:i=b.toNat+1-a.toNat:=by have:=A3 k;omega
 have g:w=z.through a.toNat b.toNat:=by rw[m,j];rfl
 rw[g];refine zz 7 ?_;exact B2 (rs:=[Q5 (z.through a.toNat b.toNat)]) (retc rfl rfl rfl rfl rfl) rfl
theorem KN(s a:Str)(d:s.length<4294967281):FnOk Tryz.prog 189 [F3 s,F3 a] (fun rs=>rs=[D3 (Lib.index s a)]) :=
 B23 (xs:=[.string ⟨s.toArray⟩,.string ⟨a.toArray⟩]) ⟨_,rfl,rfl,rfl⟩ rfl fun w b=>by
  obtain⟨m,c⟩:=xG b;refine (Tryz.stringslite_Index ⟨s.toArray⟩ ⟨a.toArray⟩ m w d c).mono ?_;rintro e w' ⟨rfl,rfl⟩;exact⟨by simp,rfl,rfl,rfl,Nat.le_refl _,fun _ _=>rfl⟩
theorem UF{P:Program}{fn:Func}{fr:Fr}{ob:Obs}{t:Tmp}{k n:Nat}{tt:TypeId}{i:List TC}[hty:TyAgg P tt n](C:fn.results=#[.cell t tt])(ht:n5 fr t=some (.s (.one (.ref k 0))))(A:B6 ob k=some (.box i))(B:i.length=n):RetS P fn fr ob [.agg i]:=by
 unfold RetS;intro S G a w h;obtain⟨b,v,m⟩:=h.slot ht;obtain⟨F,p,E,d,y,ha⟩:=h.box A;rw[v]at d;cases d;have q:(loadVar tt ⟨b,0,none⟩).run P w=.ok (.agg (List.toArray p)) w:=g9 (ht:=hty) (by rw[<-ha.length,B]) (fun j z D=>by rw[Nat.zero_add];exact cell_of_heap y (by simpa using D));rw[Array.getD_eq_getD_getElem?]at m;exact⟨_,by simp[results,C,m,asAddr,q],⟨p,rfl,ha⟩⟩
end Go.Proofs.YtabbdaafimcjhaaGreatDoor
