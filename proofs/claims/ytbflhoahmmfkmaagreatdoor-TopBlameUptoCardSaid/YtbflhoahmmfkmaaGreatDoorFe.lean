/- Walks of the program's functions. -/
import Derived.Test.YtbflhoahmmfkmaaGreatDoorFd
set_option linter.all false
namespace Go.Proofs.YtbflhoahmmfkmaaGreatDoor
open Go Go.AL
set_option maxRecDepth 100000
set_option maxHeartbeats 1000000
theorem JK{gf:Fr}{ob:Obs}(c:List Str)(s:Str)(q:s∈c)(j:C2 ob 710=some (.box [.mut 711,.buf 712 Str 1 O7 c]))(k:C2 ob 711=some (.map Str s5 (o6 c 0))) :
  AL.Met Tryz.prog 241 [.one (.ref 710 0),.one (.p (.v (.string ⟨s.toArray⟩)))] gf ob [] (fun w ob'=>w=[.one (.p (.v (.int .i64 (J6 c s 0))))]/\ob'=ob):=by
 have l:=sD s c 0 q;refine AL.Met.intro Tryz.func241 (by decide) Z Z Z ?_;refine k2 ?_;refine A7 (A6 (A9 Z Z) Z (B0 ?_));refine k1 (k2 ?_);refine A7 (A6 (A8 Z Z) Z (A6 (C1 Z) Z (A6 (B1 Z) Z (A6 (B2 Z j Z) Z (A6 (A8 Z Z) Z (A6 (cQ (s) (r:=some (.v (.int .i64 (J6 c s 0)))) Z k Z cS cT (l)) Z (A6 (A8 Z Z) Z (A6 (B5 Z Z) Z (A6 (B5 Z Z) Z (A6 (A9 Z Z) Z (A6 (A9 Z Z) Z (B0 ?_))))))))))));refine k1 (k2 (k2 ?_));refine A7 (A6 (A8 Z Z) Z (A6 (M8 Z) Z (B0 ?_)));refine k1 ?_;refine B7 rfl (fun d=>?_) (fun d=>?_)
 ·cases d
 refine k5 (k1 (k2 ?_));refine A7 (A6 (A8 Z Z) Z (A6 (A9 Z Z) Z (B0 ?_)));refine k1 (J0 ?_);exact M6 (u5 rfl rfl) (by repeat (first | exact E0 | refine E1 rfl ?_ | refine H4 _ ?_)) (fun _ _ h=>h) ⟨rfl,rfl⟩
theorem JL{gf:Fr}{ob:Obs}(d:List Str)(s:Str)(C:s∉d)(E:d.length<=1073741823)(q:C2 ob 710=some (.box [.mut 711,.buf 712 Str 1 O7 d]))(y:C2 ob 711=some (.map Str s5 (o6 d 0)))
  (B:C2 ob 712=some (.spare d.length 1 9)) :
  AL.Met Tryz.prog 241 [.one (.ref 710 0),.one (.p (.v (.string ⟨s.toArray⟩)))] gf ob [712] (fun D ob'=>D=[.one (.p (.v (.int .i64 d.length)))]/\ob'=(710,.box [.mut 711,.buf 712 Str 1 O7 (d++[s])])::(712,.spare (d++[s]).length 1 9)::Obs.forget 712 ((711,.map Str s5 (o6 d 0++[(s,.v (.int .i64 d.length))]))::ob)):=by
 have z:=pF s d 0 C;refine AL.Met.intro Tryz.func241 (by decide) Z Z Z ?_;refine k2 ?_;refine A7 (A6 (A9 Z Z) Z (B0 ?_));refine k1 (k2 ?_);refine A7 (A6 (A8 Z Z) Z (A6 (C1 Z) Z (A6 (B1 Z) Z (A6 (B2 Z q Z) Z (A6 (A8 Z Z) Z (A6 (cQ (s) (r:=none) Z y Z cS cT (z)) Z (A6 (A8 Z Z) Z (A6 (B5 Z Z) Z (A6 (B5 Z Z) Z (A6 (A9 Z Z) Z (A6 (A9 Z Z) Z (B0 ?_))))))))))));refine k1 (k2 (k2 ?_));refine A7 (A6 (A8 Z Z) Z (A6 (M8 Z) Z (B0 ?_)));refine k1 ?_;refine B7 rfl (fun A=>?_) (fun A=>?_)
 ·refine k2 ?_;refine A7 (A6 (A8 Z Z) Z (A6 (C1 Z) Z (A6 (B1 Z) Z (A6 (B2 Z q Z) Z (A6 (E8 Z (.buf _ _ _ _ _)) Z (A6 (A9 Z Z) Z (B0 ?_)))))));refine k1 (k2 ?_);refine A7 (A6 (A8 Z Z) Z (A6 (C1 Z) Z (A6 (B1 Z) Z (A6 (B2 Z q Z) Z (A6 (A8 Z Z) Z (A6 (A8 Z Z) Z (F7 (nP (s) Z y Z Z Z cS cT (z)) (B0 ?_))))))));refine k1 ?_;have j:C2 ((711,Ob.map Str s5 (o6 d 0++[(s,.v (.int .i64 d.length))]))::ob) 710=some (.box [.mut 711,.buf 712 Str 1 O7 d]):=by rw[C5 (by decide)];exact q
  have w:C2 ((711,Ob.map Str s5 (o6 d 0++[(s,.v (.int .i64 d.length))]))::ob) 712=some (.spare d.length 1 9):=by rw[C5 (by decide)];exact B
  have k:C2 ((712,Ob.spare (d++[s]).length 1 9)::Obs.forget 712 ((711,Ob.map Str s5 (o6 d 0++[(s,.v (.int .i64 d.length))]))::ob)) 710=some (.box [.mut 711,.p (.list Str 1 O7 d)]):=by
   rw[C5 (by decide),I6,j];rfl
  refine A7 (A6 (A8 Z Z) Z (A6 (A8 Z Z) Z (A6 (C1 Z) Z (A6 (B1 Z) Z (A6 (B2 Z j Z) Z (A6 (A8 Z Z) Z (A6 (D9 (c:=O7) (ys:=[s]) (D4 Z Z Z Z H3) Z Z Z) Z (D3 (K8 Z w Z (.pure _ _ _ _) (by (simp only[RJ,RP];omega)) Z) Z (A6 (C1 Z) Z (A6 (B1 Z) Z (F7 (C4 TySz.out Z k Z Z Z Z) (B0 ?_))))))))))));refine k1 (k2 ?_);refine A7 (A6 (A8 Z Z) Z (A6 (A9 Z Z) Z (B0 ?_)));refine k1 (J0 ?_);exact M6 (u5 rfl rfl) (by repeat (first | exact E0 | refine E1 rfl ?_ | refine H4 _ ?_)) (fun _ _ h=>h) ⟨rfl,rfl⟩
 ·cases A
theorem zN(files:List (List Str))(i m:Nat):(L6 files i).all (TC.free m)=true:=by
 rw[List.all_eq_true];intro t b;unfold L6 at b;obtain⟨r,_,rfl⟩:=SF.1 b;split<;>rfl
theorem DM{files:List (List Str)}{i:Nat}(b x:TC)(m:Nat):(((L6 files i).set i b).map (TC.forget m)).set i x=(L6 files i).set i x:=by
 have c:(L6 files i).map (TC.forget m)=L6 files i:=by
  unfold L6;rw[SX];apply List.map_congr_left;intro r _;simp only[Function.comp];split<;>rfl
 rw[List.map_set,c,List.set_set]
theorem zO{files:List (List Str)}{i:Nat}(b x:TC)(m d:Nat):((((L6 files i).set i b).map (TC.forget m)).map (TC.forget d)).set i x=(L6 files i).set i x:=by
 have c:∀m,(L6 files i).map (TC.forget m)=L6 files i:=by
  intro m;unfold L6;rw[SX];apply List.map_congr_left;intro r _;simp only[Function.comp];split<;>rfl
 rw[List.map_set,c,List.map_set,c,List.set_set]
theorem DN(files:List (List Str))(hn:files.length<=1048576)(hl:files.flatten.length<=536870911):FnOk Tryz.prog 178 [pStrss files] (fun rs=>rs=[pIntss (files.map (J7 (F2 files))),bT (F2 files)]):=by
 refine FnOk.intro Tryz.func178 (by decide) Z Z Z Z ?_;refine k2 ?_;refine A7 (A6 (A9 Z Z) Z (A6 (A9 Z Z) Z (B0 ?_)));refine k1 (k2 ?_);refine A7 (D3 (jT 711 Str s5 Z) Z (A6 (H0 Z) Z (D3 (bU 710 Z Z Z) Z (A6 (A9 Z Z) Z (B0 ?_)))));refine k1 (k2 ?_);refine I9 (QR 712 Str 1 O7 9 (kb:=710) (o:=1) Z Z Z) ?_;refine A7 (A6 (A8 Z Z) Z (A6 (E8 Z (.pure _ _ _ _)) Z (D3 (gT 20 Unit (fun _ _=>.v (.slice none 0 0)) () Z Z (by omega) (by omega) (fun _=>by first | exact⟨⟨rfl,rfl⟩,trivial⟩ | exact⟨J2 _ _ _,trivial⟩ | exact⟨J2 _ _ _,⟨rfl,rfl⟩,J2 _ _ _,trivial⟩ | exact⟨⟨rfl,rfl⟩,⟨rfl,rfl⟩,trivial⟩) (by first | rfl | (simp[H2,L7,Ob.free,SV.free,S1.free,TC.free]<;>rfl))) Z ?_)));refine A6 (A9 Z Z) Z (B0 ?_);refine k1 (k2 (k2 ?_));refine I9 (RE 20 Z) ?_;have hz:((List.replicate ((files.length:Nat):Int).toNat ()).map fun x=>TC.p ((fun (_:Unit) (_:Nat)=>Cell.v (.slice none 0 0)) x 0))=L6 files 0:=by
  rw[RI,<-AP];simp
 have Y:(List.replicate ((files.length:Nat):Int).toNat ()).length=files.length:=by simp
 rw[hz,Y];refine A7 (A6 (A8 Z Z) Z (A6 (E8 Z (.pure _ _ _ _)) Z (A6 (A8 Z Z) Z (B0 ?_))));refine k1 (k3 ?_);refine E3 (X:=Nat) (fun i=>([(4,.s (.one (.ref 710 0))),(5,.s (.one (.mut 20))),(16,E2 (List Str) 1 strsC files),(17,C8 files.length),(18,C8 i)],[(710,.box [.mut 711,.buf 712 Str 1 O7 (K6 files i 0)]),(711,.map Str s5 (o6 (K6 files i 0) 0)),(712,.spare (K6 files i 0).length 1 9),(20,.tarr files.length 1 (L6 files i))])) (fun i=>i<=files.length) (fun i=>files.length-i) 0 (Nat.zero_le _) ?_ ?_
 ·rw[show K6 files 0 0=[] from rfl];exact Sees.of ⟨B4 rfl,B4 rfl,B4 rfl,B4 rfl,B4 rfl,trivial⟩ ⟨rfl,rfl,rfl,rfl,trivial⟩
 intro i hi;dsimp only at hi ⊢;refine k2 ?_;refine A7 (A6 (F3 Z Z) Z (B0 ?_));refine k1 (k2 ?_);refine B7 rfl (fun K=>?_) (fun K=>?_)
 ·have G:i<files.length:=by have:=A0 K;omega
  obtain⟨f,O⟩:∃f,f=files.getD i []:=⟨_,rfl⟩
  have hv:files[i]?=some f:=by rw[O];simp[G]
  have ab:f.length<=files.flatten.length:=by
   have h1:f∈files:=SA hv;have:∀(M:List (List Str)),f∈M->f.length<=M.flatten.length:=by
    intro M;induction M with
    | nil=>intro h;simp at h
    | cons x r ih =>
     intro h;simp only[SY,RK];rcases RN.1 h with rfl | h
     ·omega
     ·have:=ih h;omega
   exact this files h1
  have W:(L6 files i).length=files.length:=by simp[L6]
  refine k5 (k1 (k2 (k3 (k2 ?_))));refine A7 (A6 (A8 Z Z) Z (A6 (B8 Z (.pure _ _ _ _) Z (by omega) hv) Z (A6 (C3 Z Z) Z (A6 (A9 Z Z) Z (A6 (A9 Z Z) Z (B0 ?_))))));refine k1 (k2 ?_);refine A7 (A6 (A8 Z Z) Z (A6 (E8 Z (.pure _ _ _ _)) Z (A6 (A8 Z Z) Z (B0 ?_))));refine k1 (k3 ?_);refine I9 (RC 713 Int 1 G4 3 (kb:=20) (o:=i) Z (EH G) (by simp[H2,L7,Ob.free,SV.free,S1.free,TC.free,zN];repeat' (first | rfl | constructor))) ?_;refine E3 (X:=Nat) (fun j=>([(4,.s (.one (.ref 710 0))),(5,.s (.one (.mut 20))),(6,C8 i),(16,E2 (List Str) 1 strsC files),(17,C8 files.length),(18,C8 i),(23,E2 Str 1 O7 f),(24,C8 f.length),(25,C8 j)],[(20,.tarr files.length 1 ((L6 files i).set i (.buf 713 Int 1 G4 (J7 (F2 files) (f.take j))))),(710,.box [.mut 711,.buf 712 Str 1 O7 (K6 files i j)]),(711,.map Str s5 (o6 (K6 files i j) 0)),(712,.spare (K6 files i j).length 1 9),(713,.spare (J7 (F2 files) (f.take j)).length 1 3)])) (fun j=>j<=f.length) (fun j=>f.length-j) 0 (Nat.zero_le _) ?_ ?_
  ·exact Sees.of ⟨B4 rfl,B4 rfl,B4 rfl,B4 rfl,B4 rfl,B4 rfl,B4 rfl,B4 rfl,B4 rfl,trivial⟩ ⟨rfl,rfl,rfl,rfl,rfl,trivial⟩
  intro j hj;dsimp only at hj ⊢;refine k2 ?_;refine A7 (A6 (F3 Z Z) Z (B0 ?_));refine k1 (k2 ?_);refine B7 rfl (fun K=>?_) (fun K=>?_)
  ·have B:j<f.length:=by have:=A0 K;omega
   obtain⟨s,hs⟩:∃s,s=f[j]:=⟨_,rfl⟩
   have L:f[j]?=some s:=by rw[hs];simp[B]
   have y:=uK files i j s (by rw[<-O];exact L);obtain⟨d,U⟩:∃d,d=K6 files i j:=⟨_,rfl⟩
   have T:=pG files i j;obtain⟨rest,w⟩:=lP files i (j+1);obtain⟨q,E⟩:∃q,q=J7 (F2 files) (f.take j):=⟨_,rfl⟩
   have ac:q.length=j:=by rw[E];simp[J7];omega
   have F:J7 (F2 files) (f.take (j+1))=q++[J6 (F2 files) s 0]:=by
    rw[E,SK B,<-hs];unfold J7;rw[SN];rfl
   rw[y]at w;rw[<-U]at y T w ⊢;rw[<-E];have C:((L6 files i).set i (.buf 713 Int 1 G4 q))[((i:Nat):Int).toNat]?=some (.buf 713 Int 1 G4 q):=by
    rw[RI,List.getElem?_set_self (by rw[W];omega)]
   have A:(((L6 files i).set i (.buf 713 Int 1 G4 q)).map (TC.forget 712))[((i:Nat):Int).toNat]?=some (.buf 713 Int 1 G4 q):=by
    rw[SR,C];rfl
   refine k5 (k1 (k2 (k3 (k2 ?_))));refine A7 (A6 (B8 Z (.pure _ _ _ _) Z (by omega) L) Z (A6 (C3 Z Z) Z (A6 (A9 Z Z) Z (B0 ?_))));by_cases z:s∈d
   ·have I:J8 d s=d:=by unfold J8;rw[A4 z]
    rw[I]at y w;have J:J6 (F2 files) s 0=J6 d s 0:=by rw[w];exact dF s rest d 0 z
    refine N7 ?_;refine Y4 ((9,O4 s)::[(4,.s (.one (.ref 710 0))),(5,.s (.one (.mut 20))),(6,C8 i),(16,E2 (List Str) 1 strsC files),(17,C8 files.length),(18,C8 i),(23,E2 Str 1 O7 f),(24,C8 f.length),(25,C8 j)]) [(20,.tarr files.length 1 ((L6 files i).set i (.buf 713 Int 1 G4 q))),(710,.box [.mut 711,.buf 712 Str 1 O7 d]),(711,.map Str s5 (o6 d 0)),(712,.spare d.length 1 9),(713,.spare q.length 1 3)] (Sees.of ⟨B4 rfl,B4 rfl,B4 rfl,B4 rfl,B4 rfl,B4 rfl,B4 rfl,B4 rfl,B4 rfl,B4 rfl,trivial⟩ ⟨rfl,rfl,rfl,rfl,rfl,trivial⟩) ?_;refine hZ [12,10,8] [[],[8],[10,8],[12,10,8]] [(8,([],[])),(10,([713],[34])),(12,([],[]))] [(0,[]),(1,[]),(2,[]),(3,[]),(4,[]),(5,[]),(6,[]),(7,[]),(8,[]),(9,[8]),(10,[8]),(11,[10,8]),(12,[10,8])] [(0,[8]),(0,[10,8]),(1,[8]),(1,[10,8]),(2,[8]),(3,[8]),(4,[8]),(5,[8])] (by kernel_rfl) (by kernel_rfl) (X6 Z Z (by kernel_rfl) Z Z (A8 Z Z) (X6 Z Z (by kernel_rfl) Z Z (A8 Z Z) (X6 Z Z (by kernel_rfl) Z Z (A8 Z Z) (X6 Z Z (by kernel_rfl) Z Z (A8 Z Z) (X6 Z Z (by kernel_rfl) Z Z (O2 Z Z Z (by omega) (by omega)) (X6 Z Z (by kernel_rfl) Z Z (d6 Z Z (by first | exact C | exact A)) ?_))))));refine X6 Z Z (by kernel_rfl) Z Z (A8 Z Z) (X6 Z Z (by kernel_rfl) Z Z (A8 Z Z) (rD Z Z (by kernel_rfl) Z Z (KN (fun gf=>JK d s z Z Z) Z Z) Z (X6 Z Z (by kernel_rfl) Z Z (D9 (c:=G4) (ys:=[J6 d s 0]) (D4 Z Z Z Z H3) Z Z Z) (rD Z Z (by kernel_rfl) Z Z (GH (fun H D=>K8 (tE D Z) Z (tE D Z) (.pure _ _ _ _) (by (simp only[RJ,RP];omega)) Z)) Z (X6 Z Z (by kernel_rfl) Z Z (O2 Z Z Z (by omega) (by omega)) (rD Z Z (by kernel_rfl) Z Z (KM (fun H D=>cJ TySz.out (tE D Z) Z (by (simp;omega)) (tE D Z) Z)) Z ?_))))));refine KJ (by kernel_rfl) rfl ?_ ?_
    ·refine m6 Z Z (by kernel_rfl) Z Z (A8 Z Z) (m6 Z Z (by kernel_rfl) Z Z (A8 Z Z) (m6 Z Z (by kernel_rfl) Z Z (A8 Z Z) (m6 Z Z (by kernel_rfl) Z Z (A8 Z Z) (m6 Z Z (by kernel_rfl) Z Z (A8 Z Z) (m6 Z Z (by kernel_rfl) Z Z (A8 Z Z) (m6 Z Z (by kernel_rfl) Z Z (O2 Z Z Z (by omega) (by omega)) (m6 Z Z (by kernel_rfl) Z Z (d6 Z Z (by first | exact C | exact A)) ?_)))))));exact KK
    refine Y4 [(4,.s (.one (.ref 710 0))),(5,.s (.one (.mut 20))),(6,C8 i),(16,E2 (List Str) 1 strsC files),(17,C8 files.length),(18,C8 i),(23,E2 Str 1 O7 f),(24,C8 f.length),(25,C8 j)] [(20,.tarr files.length 1 ((L6 files i).set i (.buf 713 Int 1 G4 (q++[J6 d s 0])))),(710,.box [.mut 711,.buf 712 Str 1 O7 (d)]),(711,.map Str s5 (o6 (d) 0)),(712,.spare (d).length 1 9),(713,.spare (q++[J6 d s 0]).length 1 3)] (by rw[RI i,DM];exact Sees.of ⟨B4 rfl,B4 rfl,B4 rfl,B4 rfl,B4 rfl,B4 rfl,B4 rfl,B4 rfl,B4 rfl,trivial⟩ ⟨rfl,rfl,rfl,rfl,rfl,trivial⟩) ?_;refine A7 (A6 (D2 Z Z (by omega)) Z (A6 (A8 Z Z) Z (B0 ?_)));refine k1 ?_;exact⟨j+1,B,by omega,by rw[y,F,J];exact Sees.of ⟨B4 rfl,B4 rfl,B4 rfl,B4 rfl,B4 rfl,B4 rfl,B4 rfl,B4 rfl,B4 rfl,trivial⟩ ⟨rfl,rfl,rfl,rfl,rfl,trivial⟩⟩
   ·refine N7 ?_;have I:J8 d s=d++[s]:=by unfold J8;rw[A5 z]
    rw[I]at y w;have S:o6 (d++[s]) 0=o6 d 0++[(s,.v (.int .i64 (d.length:Int)))]:=by rw[sC];simp only[Int.zero_add]
    have J:J6 (F2 files) s 0=d.length:=by
     rw[w,dF s rest (d++[s]) 0 (by simp),lO s d 0 z];omega
    refine Y4 ((9,O4 s)::[(4,.s (.one (.ref 710 0))),(5,.s (.one (.mut 20))),(6,C8 i),(16,E2 (List Str) 1 strsC files),(17,C8 files.length),(18,C8 i),(23,E2 Str 1 O7 f),(24,C8 f.length),(25,C8 j)]) [(20,.tarr files.length 1 ((L6 files i).set i (.buf 713 Int 1 G4 (q)))),(710,.box [.mut 711,.buf 712 Str 1 O7 (d)]),(711,.map Str s5 (o6 (d) 0)),(712,.spare (d).length 1 9),(713,.spare (q).length 1 3)] (Sees.of ⟨B4 rfl,B4 rfl,B4 rfl,B4 rfl,B4 rfl,B4 rfl,B4 rfl,B4 rfl,B4 rfl,B4 rfl,trivial⟩ ⟨rfl,rfl,rfl,rfl,rfl,trivial⟩) ?_;refine hZ [12,10,8] [[],[8],[10,8],[12,10,8]] [(8,([712],[])),(10,([713],[34])),(12,([],[]))] [(0,[]),(1,[]),(2,[]),(3,[]),(4,[]),(5,[]),(6,[]),(7,[]),(8,[]),(9,[8]),(10,[8]),(11,[10,8]),(12,[10,8])] [(0,[8]),(0,[10,8]),(1,[8]),(1,[10,8]),(2,[8]),(3,[8]),(4,[8]),(5,[8])] (by kernel_rfl) (by kernel_rfl) (X6 Z Z (by kernel_rfl) Z Z (A8 Z Z) (X6 Z Z (by kernel_rfl) Z Z (A8 Z Z) (X6 Z Z (by kernel_rfl) Z Z (A8 Z Z) (X6 Z Z (by kernel_rfl) Z Z (A8 Z Z) (X6 Z Z (by kernel_rfl) Z Z (O2 Z Z Z (by omega) (by omega)) (X6 Z Z (by kernel_rfl) Z Z (d6 Z Z (by first | exact C | exact A)) ?_))))));refine X6 Z Z (by kernel_rfl) Z Z (A8 Z Z) (X6 Z Z (by kernel_rfl) Z Z (A8 Z Z) (rD Z Z (by kernel_rfl) Z Z (KN (fun gf=>JL d s z (by omega) Z Z Z) Z Z) Z (X6 Z Z (by kernel_rfl) Z Z (D9 (c:=G4) (ys:=[(d.length:Int)]) (D4 Z Z Z Z H3) Z Z Z) (rD Z Z (by kernel_rfl) Z Z (GH (fun H D=>K8 (tE D Z) Z (tE D Z) (.pure _ _ _ _) (by (simp only[RJ,RP];omega)) Z)) Z (X6 Z Z (by kernel_rfl) Z Z (O2 Z Z Z (by omega) (by omega)) (rD Z Z (by kernel_rfl) Z Z (KM (fun H D=>cJ TySz.out (tE D Z) Z (by (simp;omega)) (tE D Z) Z)) Z ?_))))));refine KJ (by kernel_rfl) rfl ?_ ?_
    ·refine m6 Z Z (by kernel_rfl) Z Z (A8 Z Z) (m6 Z Z (by kernel_rfl) Z Z (A8 Z Z) (m6 Z Z (by kernel_rfl) Z Z (A8 Z Z) (m6 Z Z (by kernel_rfl) Z Z (A8 Z Z) (m6 Z Z (by kernel_rfl) Z Z (A8 Z Z) (m6 Z Z (by kernel_rfl) Z Z (A8 Z Z) (m6 Z Z (by kernel_rfl) Z Z (O2 Z Z Z (by omega) (by omega)) (m6 Z Z (by kernel_rfl) Z Z (d6 Z Z (by first | exact C | exact A)) ?_)))))));exact KK
    refine Y4 [(4,.s (.one (.ref 710 0))),(5,.s (.one (.mut 20))),(6,C8 i),(16,E2 (List Str) 1 strsC files),(17,C8 files.length),(18,C8 i),(23,E2 Str 1 O7 f),(24,C8 f.length),(25,C8 j)] [(20,.tarr files.length 1 ((L6 files i).set i (.buf 713 Int 1 G4 (q++[(d.length:Int)])))),(710,.box [.mut 711,.buf 712 Str 1 O7 (d++[s])]),(711,.map Str s5 (o6 (d++[s]) 0)),(712,.spare (d++[s]).length 1 9),(713,.spare (q++[(d.length:Int)]).length 1 3)] (by rw[RI i,zO,S];exact Sees.of ⟨B4 rfl,B4 rfl,B4 rfl,B4 rfl,B4 rfl,B4 rfl,B4 rfl,B4 rfl,B4 rfl,trivial⟩ ⟨rfl,rfl,rfl,rfl,rfl,trivial⟩) ?_;refine A7 (A6 (D2 Z Z (by omega)) Z (A6 (A8 Z Z) Z (B0 ?_)));refine k1 ?_;exact⟨j+1,B,by omega,by rw[y,F,J];exact Sees.of ⟨B4 rfl,B4 rfl,B4 rfl,B4 rfl,B4 rfl,B4 rfl,B4 rfl,B4 rfl,B4 rfl,trivial⟩ ⟨rfl,rfl,rfl,rfl,rfl,trivial⟩⟩
  ·have R:j=f.length:=by have:=A1 K;omega
   subst R;rw[RS];refine k6 (k7 (k7 (k8 Z (k4 (k1 ?_)))));refine I9 (Sees.forget 713) ?_;have P:((L6 files i).set i (.buf 713 Int 1 G4 (J7 (F2 files) f))).map (TC.forget 713)=L6 files (i+1):=by rw[O];exact uL files i 713 G
   have V:K6 files (i+1) 0=K6 files i f.length:=by rw[O];exact wZ files i
   refine Y4 [(4,.s (.one (.ref 710 0))),(5,.s (.one (.mut 20))),(16,E2 (List Str) 1 strsC files),(17,C8 files.length),(18,C8 i)] [(710,.box [.mut 711,.buf 712 Str 1 O7 (K6 files (i+1) 0)]),(711,.map Str s5 (o6 (K6 files (i+1) 0) 0)),(712,.spare (K6 files (i+1) 0).length 1 9),(20,.tarr files.length 1 (L6 files (i+1)))] (by rw[V,<-P];exact Sees.of ⟨B4 rfl,B4 rfl,B4 rfl,B4 rfl,B4 rfl,trivial⟩ ⟨rfl,rfl,rfl,rfl,trivial⟩) ?_;refine A7 (A6 (D2 Z Z (by omega)) Z (A6 (A8 Z Z) Z (B0 ?_)));refine k1 ?_;exact⟨i+1,G,by omega,Sees.of ⟨B4 rfl,B4 rfl,B4 rfl,B4 rfl,B4 rfl,trivial⟩ ⟨rfl,rfl,rfl,rfl,trivial⟩⟩
 ·have Q:i=files.length:=by have:=A1 K;omega
  rw[Q,xA];refine I9 (RF 20 (c:=intsC) (files.map (J7 (F2 files))) Z (by simp) (AQ files)) ?_;refine I9 (Sees.freeze (k:=20) Z) ?_;refine I9 (Sees.forget 712) ?_;refine k6 (k2 ?_);refine F1 (by kernel_rfl) (by kernel_rfl) (B6 (A8 Z Z) Z Z (B6 (A8 Z Z) Z Z (B6 (C1 Z) Z Z (B6 (B1 Z) Z Z (B6 (B2 Z Z Z) Z Z (B6 (A9 Z Z) Z Z (B6 (A9 Z Z) Z Z (T3 ?_))))))));refine k1 (J0 ?_);exact C0 (Z7 rfl rfl rfl rfl rfl) rfl
theorem tS(files:List (List Str))(b:files.length<=1048576)(a:files.flatten.length<=536870911):FnOk Tryz.prog 129 [pStrss files] (fun rs=>rs=[pIntss (files.map (J7 (F2 files)))]):=by
 refine FnOk.intro Tryz.func129 (by decide) Z Z Z Z ?_;refine k2 ?_;refine A7 (A6 (A9 Z Z) Z (B0 ?_));refine k1 (k2 ?_);refine A7 (A6 (A8 Z Z) Z (C7 (DN files b a) Z Z Z ?_));rintro _ rfl;refine A6 (A8 Z Z) Z (A6 (B5 Z Z) Z (A6 (B5 Z Z) Z (A6 (A9 Z Z) Z (A6 (A9 Z Z) Z (B0 ?_)))));refine k1 (k2 ?_);refine A7 (A6 (A8 Z Z) Z (A6 (A9 Z Z) Z (B0 ?_)));refine k1 (J0 ?_);exact C0 (H7 rfl rfl rfl) rfl
abbrev lZ(i:Int):Ob:=.box [.p (.v (.int .i64 i))]
theorem lF{gf:Fr}{ob:Obs}(e i j:Int)(d:List Span)(G:e<=1048576)(H:0<=j)(D:j<=536870912)(I:(d.length:Int)<=i)
  (A:C2 ob 5=some (.box [.buf 20 Span 2 spanC d])) (B:C2 ob 6=some (lZ i)) (C:C2 ob 7=some (lZ j)) (k:C2 ob 20=some (.spare d.length 2 46)) :
  AL.Met Tryz.prog 303 [.one (.p (.v (.int .i64 e))),.one (.ref 6 0),.one (.ref 5 0),.one (.ref 7 0)] gf ob [20]
   (fun F ob'=>F=[]/\ob'=(5,.box [.buf 20 Span 2 spanC (d++K5 i j (e-i).toNat)])::(6,lZ (i+(e-i).toNat))::(7,lZ (j+(e-i).toNat))::(20,.spare (d++K5 i j (e-i).toNat).length 2 46)::Obs.forget 20 ob):=by
 refine AL.Met.introH Tryz.func303 (by decide) rfl rfl rfl (fun w=>?_);refine k3 ?_;refine E3 (X:=Nat) (fun t=>([(0,C8 e),(1,.s (.one (.ref 6 0))),(2,.s (.one (.ref 5 0))),(3,.s (.one (.ref 7 0)))]++Fr.forget 20 gf,(5,.box [.buf 20 Span 2 spanC (d++K5 i j t)])::(6,lZ (i+t))::(7,lZ (j+t))::(20,.spare (d++K5 i j t).length 2 46)::Obs.forget 20 ob)) (fun t=>t<=(e-i).toNat) (fun t=>(e-i).toNat-t) 0 (Nat.zero_le _) ?_ ?_
 ·rw[o4,SJ,show i+((0:Nat):Int)=i by omega,show j+((0:Nat):Int)=j by omega];exact QU 20 (l:=[(0,C8 e),(1,.s (.one (.ref 6 0))),(2,.s (.one (.ref 5 0))),(3,.s (.one (.ref 7 0)))]) (L:=[(5,_),(6,_),(7,_),(20,_)]) ⟨B4 rfl,B4 rfl,B4 rfl,B4 rfl,trivial⟩ w (by repeat (first | exact E0 | refine E1 rfl ?_)) ⟨A,B,C,k,trivial⟩
 intro t q;dsimp only at q ⊢;have E:=T7 i j t;refine k2 (k2 ?_);refine A7 (A6 (B2 Z Z Z) Z (A6 (A8 Z Z) Z (A6 (F3 Z Z) Z (B0 ?_))));refine k1 ?_;refine B7 rfl (fun m=>?_) (fun m=>?_)
 ·have y:=A0 m;refine k5 (k1 (k2 (k3 (k2 ?_))));refine A7 (A6 (B2 Z Z Z) Z (A6 (B2 Z Z Z) Z (A6 (B2 Z Z Z) Z (A6 (H0 Z) Z (A6 (D9 (c:=spanC) (ys:=[⟨i+t,j+t⟩]) (D4 Z Z Z Z H3) Z Z Z) Z (D3 (K8 Z Z Z (.pure _ _ _ _) (by (simp only[RK,RJ,RP];omega)) Z) Z (F7 (C4 TySz.out Z Z Z Z Z Z) (B0 ?_))))))));refine k1 ?_;refine A7 (A6 (B2 Z Z Z) Z (A6 (D2 Z Z (by omega)) Z (F7 (C4 TySz.out Z Z Z Z Z Z) (B0 ?_))));refine k4 (k1 ?_);refine A7 (A6 (B2 Z Z Z) Z (A6 (D2 Z Z (by omega)) Z (F7 (C4 TySz.out Z Z Z Z Z Z) (B0 ?_))));refine k1 ?_;refine⟨t+1,by omega,by omega,?_⟩;rw[iL,<-RT,show i+((t+1:Nat):Int)=i+t+1 by omega,show j+((t+1:Nat):Int)=j+t+1 by omega];exact QK ⟨B4 rfl,B4 rfl,B4 rfl,B4 rfl,trivial⟩ (lA w) (by repeat (first | exact E0 | refine E1 rfl ?_ | refine sZ _ ?_)) (M9 (L:=[(5,_),(6,_),(7,_),(20,_)]) ⟨rfl,rfl,rfl,rfl,trivial⟩ (by repeat (first | exact K2 | refine K9 rfl ?_ | refine JB _ ?_)))
 ·have y:=A1 m;have z:t=(e-i).toNat:=by omega
  subst z;refine k6 (k7 (k7 (k8 Z ?_)));exact yO (NT rfl) (by repeat (first | exact E0 | refine E1 rfl ?_ | refine H4 _ ?_)) (fun _ _ h=>h) ⟨rfl,rfl⟩
theorem DO(l:List Change)(m:Int)(M:l.length<=32768)(O:m<=4096)(hb:∀c∈l,c.Old<=4096/\0<=c.OldLen/\c.OldLen<=4096/\0<=c.NewLen/\c.NewLen<=4096) :
  FnOk Tryz.prog 278 [pChanges l,E7 m] (fun rs=>rs=[pSpans (R5 l m)]):=by
 refine FnOk.intro Tryz.func278 (by decide) Z Z Z Z ?_;refine k2 ?_;refine A7 (A6 (A9 Z Z) Z (B0 ?_));refine k1 (k2 ?_);refine A7 (D3 (I5 5 Z) Z (B0 ?_));refine I9 (QR 20 Span 2 spanC 46 (kb:=5) (o:=0) Z Z Z) ?_;refine k2 ?_;refine A7 (D3 (I5 6 Z) Z (D3 (I5 7 Z) Z (F7 (C4 TySz.out Z Z Z Z Z Z) (F7 (C4 TySz.out Z Z Z Z Z Z) (B0 ?_)))));refine k1 (k2 ?_);refine A7 (A6 (fO Z Z) Z (A6 (A9 Z Z) Z (B0 ?_)));refine k1 (k2 (k2 ?_));refine A7 (A6 (A8 Z Z) Z (A6 (E8 Z (.pure _ _ _ _)) Z (A6 (A8 Z Z) Z (B0 ?_))));refine k1 (k3 ?_);refine E3 (X:=Nat×Int×Int×List Span) (fun x=>([(1,C8 m),(5,.s (.one (.ref 5 0))),(6,.s (.one (.ref 6 0))),(7,.s (.one (.ref 7 0))),(8,.s (.one (.clo 303 [] [(6,0),(5,0),(7,0)]))),(12,E2 Change 4 changeC l),(13,C8 l.length),(14,C8 x.1)],[(5,.box [.buf 20 Span 2 spanC x.2.2.2]),(6,lZ x.2.1),(7,lZ x.2.2.1),(20,.spare x.2.2.2.length 2 46)]))
  (fun x=>x.1<=l.length/\0<=x.2.1/\(x.2.2.2.length:Int)<=x.2.1/\x.2.1<=4096+x.1*4096/\0<=x.2.2.1/\x.2.2.1<=x.1*8192/\x.2.2.2++Q0 x.2.1 x.2.2.1 (l.drop x.1) m=R5 l m)
  (fun x=>l.length-x.1) (0,0,0,[]) (by simp[R5]) (Sees.of ⟨B4 rfl,B4 rfl,B4 rfl,B4 rfl,B4 rfl,B4 rfl,B4 rfl,B4 rfl,trivial⟩ ⟨rfl,rfl,rfl,rfl,trivial⟩) ?_
 rintro⟨k,i,j,d⟩ ⟨J,I,D,z,A,B,q⟩;dsimp only at J I D z A B q ⊢;refine k2 ?_;refine A7 (A6 (F3 Z Z) Z (B0 ?_));refine k1 (k2 ?_);refine B7 rfl (fun F=>?_) (fun F=>?_)
 ·have y:k<l.length:=by have:=A0 F;omega
  obtain⟨c,w⟩:∃c,c=l[k]:=⟨_,rfl⟩
  have G:l[k]?=some c:=by rw[w];simp[y]
  have L:=hb c (SA G);rw[RO y,<-w,Q0]at q;refine k5 (k1 (k2 (k3 (k2 ?_))));refine A7 (A6 (B8 Z (.pure _ _ _ _) Z (by omega) G) Z (A6 (G3 Z Z) Z (D3 (I5 10 Z) Z (F7 (C4 TySz.out Z Z Z Z Z Z) (B0 ?_)))));refine k1 (k2 ?_);refine Y4 [(1,C8 m),(5,.s (.one (.ref 5 0))),(6,.s (.one (.ref 6 0))),(7,.s (.one (.ref 7 0))),(8,.s (.one (.clo 303 [] [(6,0),(5,0),(7,0)]))),(10,.s (.one (.ref 10 0))),(12,E2 Change 4 changeC l),(13,C8 l.length),(14,C8 k)] [(5,.box [.buf 20 Span 2 spanC d]),(6,lZ i),(7,lZ j),(20,.spare d.length 2 46),(10,.box [.p (.v (.int .i64 c.Old)),.p (.v (.int .i64 c.OldLen)),.p (.v (.int .i64 c.New)),.p (.v (.int .i64 c.NewLen))])] (Sees.of ⟨B4 rfl,B4 rfl,B4 rfl,B4 rfl,B4 rfl,B4 rfl,B4 rfl,B4 rfl,B4 rfl,trivial⟩ ⟨rfl,rfl,rfl,rfl,rfl,trivial⟩) ?_;refine A7 (A6 (A8 Z Z) Z (A6 (B1 Z) Z (A6 (B2 Z Z Z) Z (nO (lF c.Old i j d (by omega) A (by omega) D Z Z Z Z) Z Z Z Z ?_))));rintro _ _ ⟨rfl,rfl⟩;refine B0 ?_;refine k1 ?_;obtain⟨n,K⟩:∃n,n=(c.Old-i).toNat:=⟨_,rfl⟩
  rw[<-K]at q ⊢;refine Y4 [(1,C8 m),(5,.s (.one (.ref 5 0))),(6,.s (.one (.ref 6 0))),(7,.s (.one (.ref 7 0))),(8,.s (.one (.clo 303 [] [(6,0),(5,0),(7,0)]))),(10,.s (.one (.ref 10 0))),(12,E2 Change 4 changeC l),(13,C8 l.length),(14,C8 k)] [(5,.box [.buf 20 Span 2 spanC (d++K5 i j n)]),(6,lZ (i+n)),(7,lZ (j+n)),(20,.spare (d++K5 i j n).length 2 46),(10,.box [.p (.v (.int .i64 c.Old)),.p (.v (.int .i64 c.OldLen)),.p (.v (.int .i64 c.New)),.p (.v (.int .i64 c.NewLen))])] (Sees.of ⟨B4 rfl,B4 rfl,B4 rfl,B4 rfl,B4 rfl,B4 rfl,B4 rfl,B4 rfl,B4 rfl,trivial⟩ ⟨rfl,rfl,rfl,rfl,rfl,trivial⟩) ?_;refine aR [9,8] [[],[8],[9,8]] [(4,[8]),(5,[8]),(6,[8]),(7,[8])] (by kernel_rfl) (by kernel_rfl) (S2 Z (B2 Z Z Z) (S2 Z (B1 Z) (S2 Z (B2 Z Z Z) (S2 Z (D2 Z Z (by omega)) (S2 Z (B2 Z Z Z) (S2 Z (B1 Z) (S2 Z (B2 Z Z Z) (S2 Z (D2 Z Z (by omega)) (mI (u6 TySz.out Z Z Z Z Z Z) (mI (u6 TySz.out Z Z Z Z Z Z) ?_))))))))));refine FX rfl ?_ ?_
  ·refine X5 Z Z (B2 Z Z Z) (X5 Z Z (B1 Z) (X5 Z Z (B2 Z Z Z) (X5 Z Z (D2 Z Z (by omega)) ?_)));exact FY
  refine k4 (k1 ?_);refine A7 (A6 (D2 Z Z (by omega)) Z (A6 (A8 Z Z) Z (B0 ?_)));refine k1 ?_;have E:=T7 i j n;have H:max i c.Old=i+n:=by omega
  rw[H]at q;exact⟨(k+1,i+n+c.OldLen,j+n+c.NewLen,d++K5 i j n),⟨by dsimp only;omega,by dsimp only;omega,by dsimp only;rw[RK,E];omega,by dsimp only;omega,by dsimp only;omega,by dsimp only;omega,by dsimp only;rw[RT];exact q⟩,by dsimp only;omega,Sees.of ⟨B4 rfl,B4 rfl,B4 rfl,B4 rfl,B4 rfl,B4 rfl,B4 rfl,B4 rfl,trivial⟩ ⟨rfl,rfl,rfl,rfl,trivial⟩⟩
 ·have C:k=l.length:=by have:=A1 F;omega
  rw[C,RX (Nat.le_refl _),Q0]at q;refine k6 (k2 ?_);refine A7 (A6 (A8 Z Z) Z (A6 (A8 Z Z) Z (nO (lF m i j d (by omega) A (by omega) D Z Z Z Z) Z Z Z Z ?_)));rintro _ _ ⟨rfl,rfl⟩;refine B0 ?_;refine k1 (k2 ?_);rw[q];refine I9 (Sees.forget 20) ?_;refine A7 (A6 (B2 Z Z Z) Z (A6 (A9 Z Z) Z (B0 ?_)));refine k1 (J0 ?_);exact C0 (H7 rfl rfl rfl) rfl
theorem jY{l:List Change}{m n:Int}(a:ScOk 0 0 l m n):∀c∈l,c.Old<=4096/\0<=c.OldLen/\c.OldLen<=4096/\0<=c.NewLen/\c.NewLen<=4096:=by
 intro c j;obtain⟨k,b,rfl⟩:=List.mem_iff_getElem.1 j;have:=a.get k b;have e:H9 l k=l[k]:=by unfold H9;simp[b]
 rw[e]at this;obtain⟨⟨_,d⟩,⟨f,g⟩,_,⟨h,i⟩,_⟩:=this;exact⟨d,f,g,h,i⟩
theorem wN{l:List Change}{m n:Int}(d:m<=4096)(a:ScOk 0 0 l m n):(R5 l m).length<=4096:=by
 have:=kD l 0 0 m (by omega) 4096 (by omega) (fun c b=>⟨by have:=(jY a c b).1;omega,(jY a c b).2.1⟩);unfold R5;omega
set_option maxHeartbeats 2000000
theorem DP(x y:List Str)(l:List Change)(m n:Int)(j:m=x.length)(k:n=y.length)(i:l.length<=32768)(a:ScFit x y l):FnOk Tryz.prog 220 [pChanges l,E7 m,E7 n] (fun rs=>rs=[pSpans (R5 l x.length),E7 0]):=by
 subst j k;have f:=a.check;obtain⟨⟨_,ha⟩,⟨_,hb⟩,c⟩:=rY f;have b:=jY c;have d:=DK l x.length y.length (by omega);rw[f]at d;have e:=DO l x.length i ha b;obtain⟨M,h⟩:∃M,M=R5 l x.length:=⟨_,rfl⟩
 rw[<-h]at e ⊢;refine FnOk.intro Tryz.func220 (by decide) Z Z Z Z ?_;refine k2 ?_;refine A7 (A6 (K7 _ 2 spanC) Z (A6 (A9 Z Z) Z (B0 ?_)));refine k1 (k2 (k2 ?_));refine A7 (A6 (A8 Z Z) Z (A6 (A8 Z Z) Z (A6 (A8 Z Z) Z (C7 (d) Z Z Z ?_))));rintro _ rfl;refine A6 (A9 Z Z) Z (B0 ?_);refine k1 (k2 ?_);refine A7 (A6 (A8 Z Z) Z (A6 (P6 Z Z) Z (B0 ?_)));refine k1 ?_;refine B7 rfl (fun g=>?_) (fun g=>?_)
 ·exact absurd rfl (A0 g)
 refine k5 (k1 (k2 ?_));refine A7 (A6 (A8 Z Z) Z (A6 (A8 Z Z) Z (C7 (e) Z Z Z ?_)));rintro _ rfl;refine A6 (A9 Z Z) Z (A6 (A9 Z Z) Z (B0 ?_));refine k1 (J0 ?_);exact C0 (rs:=[pSpans M,E7 0]) (Z7 rfl rfl rfl rfl rfl) rfl
theorem JM(x y:List Str):([x,y].map (J7 (F2 [x,y])))=[J7 (F2 [x,y]) x,J7 (F2 [x,y]) y]:=rfl
theorem DQ{a b:Str}(ha:Few a)(hb:Few b):[D8 a,D8 b].flatten.length<=536870911:=by
 have c:=ha.2;have d:=hb.2;simp only[SY,List.flatten_nil,SJ,RK];omega
theorem tT{x y:List Str}(a:x.length<=4096):(Z0 x y).length<=32768:=by have:=uF x y;omega
theorem tU(old now:Str)(R:Few old)(Q:Few now):FnOk Tryz.prog 153 [G8 old,G8 now] (fun rs=>rs=[O5 (bQ (D8 old) (D8 now))]):=by
 have ah:=R.1;have ag:=Q.1;have hx:=R.2;have hy:=Q.2;have z:=jW old (by omega);have C:=jW now (by omega);rw[dG R]at z;rw[dG Q]at C;obtain⟨x,O⟩:∃x,x=D8 old:=⟨_,rfl⟩
 obtain⟨y,P⟩:∃y,y=D8 now:=⟨_,rfl⟩
 have V:=tS [x,y] (by simp) (by rw[O,P];exact DQ R Q);rw[JM]at V;rw[<-O]at hx z ⊢;rw[<-P]at hy C ⊢;have ac:(J7 (F2 [x,y]) x).length=x.length:=by simp[J7]
 have G:(J7 (F2 [x,y]) y).length=y.length:=by simp[J7]
 have Y:=zM (J7 (F2 [x,y]) x) (J7 (F2 [x,y]) y) (by omega) (by omega);have f:=pA x y hx hy;have W:=DP x y (Z0 x y) x.length y.length rfl rfl (tT hx) f;have E:=f.pairs;obtain⟨A,T⟩:∃A,A=J7 (F2 [x,y]) x:=⟨_,rfl⟩
 obtain⟨B,U⟩:∃B,B=J7 (F2 [x,y]) y:=⟨_,rfl⟩
 obtain⟨S,j⟩:∃S,S=Z0 x y:=⟨_,rfl⟩
 have L:kC A B=S:=by rw[j,T,U];rfl
 obtain⟨b,d⟩:∃b,b=R5 S x.length:=⟨_,rfl⟩
 have af:b.length<=4096:=by
  rw[d,j];obtain⟨⟨_,ha⟩,⟨_,hb⟩,ae⟩:=rY f.check;exact wN (by omega) ae
 have q:bQ x y=bR b (List.replicate y.length (-1)) b.length:=by rw[BA,d,j];rfl
 rw[<-T,<-U]at V Y;rw[L]at Y;rw[<-j]at W E;rw[<-d]at W E;rw[q];clear q L d j T U ac G;refine FnOk.intro Tryz.func153 (by decide) Z Z Z Z ?_;refine k2 ?_;refine A7 (A6 (K7 _ 1 G4) Z (B0 ?_));refine k1 (k2 ?_);refine A7 (A6 (A8 Z Z) Z (C7 (z) Z Z Z ?_));rintro _ rfl;refine A6 (A8 Z Z) Z (A6 (B5 Z Z) Z (A6 (B5 Z Z) Z (A6 (A9 Z Z) Z (A6 (A9 Z Z) Z (B0 ?_)))));refine k1 (k2 ?_);refine A7 (A6 (A8 Z Z) Z (C7 (C) Z Z Z ?_));rintro _ rfl;refine A6 (A8 Z Z) Z (A6 (B5 Z Z) Z (A6 (B5 Z Z) Z (A6 (A9 Z Z) Z (A6 (A9 Z Z) Z (B0 ?_)))));refine k1 (k2 ?_);refine A7 (A6 (A8 Z Z) Z (A6 (A8 Z Z) Z (A6 (D9 (c:=strsC) (ys:=[x,y]) (D4 Z Z Z Z (D4 Z Z Z Z H3)) Z Z Z) Z (C7 (V) Z Z Z ?_))));rintro _ rfl;refine A6 (A9 Z Z) Z (B0 ?_);refine k1 (k2 ?_);refine F1 (by kernel_rfl) (by kernel_rfl) (B6 (A8 Z Z) Z Z (B6 (B8 Z (.pure _ _ _ _) Z (by omega) (show [A,B][(0:Int).toNat]?=some A from Z)) Z Z (B6 (C3 Z Z) Z Z (B6 (A8 Z Z) Z Z (B6 (B8 Z (.pure _ _ _ _) Z (by omega) (show [A,B][(1:Int).toNat]?=some B from Z)) Z Z (B6 (C3 Z Z) Z Z (B6 (K4 (Y) Z Z) Z Z (B6 (A8 Z Z) Z Z (B6 (B5 Z Z) Z Z (B6 (B5 Z Z) Z Z (B6 (A9 Z Z) Z Z (B6 (A9 Z Z) Z Z (T3 ?_)))))))))))));refine k1 (k2 ?_);refine A7 (A6 (A8 Z Z) Z (A6 (A8 Z Z) Z (A6 (E8 Z (.pure _ _ _ _)) Z (A6 (A8 Z Z) Z (A6 (E8 Z (.pure _ _ _ _)) Z (C7 (W) Z Z Z ?_))))));rintro _ rfl;refine A6 (A8 Z Z) Z (A6 (B5 Z Z) Z (A6 (B5 Z Z) Z (A6 (A9 Z Z) Z (A6 (A9 Z Z) Z (B0 ?_)))));refine k1 (k2 ?_);refine A7 (A6 (A8 Z Z) Z (A6 (E8 Z (.pure _ _ _ _)) Z (D3 (gT 751 Int G4 0 Z Z (by ((try dsimp only);omega)) (by ((try dsimp only);omega)) (fun _=>by first | exact⟨⟨rfl,rfl⟩,trivial⟩ | exact⟨J2 _ _ _,trivial⟩ | exact⟨J2 _ _ _,⟨rfl,rfl⟩,J2 _ _ _,trivial⟩ | exact⟨⟨rfl,rfl⟩,⟨rfl,rfl⟩,trivial⟩) (by first | rfl | (simp[H2,L7,Ob.free,SV.free,S1.free,TC.free]<;>rfl))) Z ?_)));refine A6 (A9 Z Z) Z (B0 ?_);rw[RI];refine k1 (k2 (k2 ?_));refine A7 (A6 (A8 Z Z) Z (A6 (qR Z Z) Z (A6 (A8 Z Z) Z (B0 ?_))));refine k1 (k3 ?_);refine E3 (X:=Nat) (fun i=>([(12,E2 Span 2 spanC b),(14,.s (.one (.mut 751))),(55,C8 y.length),(56,C8 i)],[(751,.arr Int 1 G4 (fF y.length i))])) (fun i=>i<=y.length) (fun i=>y.length-i) 0 (Nat.zero_le _) (by dsimp only;rw[AY];exact (Sees.of ⟨B4 rfl,B4 rfl,PJ Z (by first | (simp;done) | (simp;omega)),B4 rfl,trivial⟩ ⟨rfl,trivial⟩)) ?_;intro i hi;dsimp only at hi ⊢;have H:=EY hi;refine k2 ?_;refine A7 (A6 (F3 Z Z) Z (B0 ?_));refine k1 (k2 ?_);refine B7 rfl (fun F=>?_) (fun F=>?_)
 ·have D:i<y.length:=by have v:=A0 F;(try dsimp only at v);omega
  have K:=EZ D;refine k5 (k1 (k2 (k3 (k2 ?_))));refine A7 (A6 (A8 Z Z) Z (A6 (A9 Z Z) Z (B0 ?_)));refine k1 ?_;refine A7 (A6 (A8 Z Z) Z (A6 (A8 Z Z) Z (A6 (J1 Z Z Z (by omega) (by (rw[H];omega))) Z ?_)));refine F7 (N8 TySz.out Z Z (by (rw[H];omega)) Z Z) ?_;refine B0 ?_;rw[RI,K];refine k4 (k1 ?_);refine A7 (A6 (D2 Z Z (by omega)) Z (A6 (A8 Z Z) Z (B0 ?_)));refine k1 ?_;exact⟨i+1,by omega,by omega,Sees.of ⟨B4 rfl,B4 rfl,B4 rfl,B4 rfl,trivial⟩ ⟨rfl,trivial⟩⟩
 have ab:i=y.length:=by have v:=A1 F;(try dsimp only at v);omega
 rw[ab,FA];obtain⟨o,I⟩:∃o,o=List.replicate y.length (-1:Int):=⟨_,rfl⟩
 have J:o.length=y.length:=by rw[I,SL]
 rw[<-I];refine k6 (k2 (k2 ?_));refine A7 (A6 (A8 Z Z) Z (A6 (E8 Z (.pure _ _ _ _)) Z (A6 (A8 Z Z) Z (B0 ?_))));refine k1 (k3 ?_);refine E3 (X:=Nat) (fun k=>([(14,.s (.one (.mut 751))),(63,E2 Span 2 spanC b),(64,C8 b.length),(65,C8 k)],[(751,.arr Int 1 G4 (bR b o k))])) (fun k=>k<=b.length) (fun k=>b.length-k) 0 (Nat.zero_le _) (Sees.of ⟨B4 rfl,B4 rfl,B4 rfl,B4 rfl,trivial⟩ ⟨rfl,trivial⟩) ?_;intro k hk;dsimp only at hk ⊢;have M:=AZ b o k;refine k2 ?_;refine A7 (A6 (F3 Z Z) Z (B0 ?_));refine k1 (k2 ?_);refine B7 rfl (fun F=>?_) (fun F=>?_)
 ·have D:k<b.length:=by have v:=A0 F;(try dsimp only at v);omega
  obtain⟨p,hp⟩:∃p,p=b[k]:=⟨_,rfl⟩
  have hv:b[k]?=some p:=by rw[hp];exact RG D
  obtain⟨_,p2,w,_,p4⟩:=E p (SA hv);obtain⟨p5,_⟩:=List.getElem?_eq_some_iff.1 p4;have hs:=xZ (o:=o) hv;refine k5 (k1 (k2 (k3 (k2 ?_))));refine A7 (A6 (B8 Z (.pure _ _ _ _) Z (by omega) hv) Z (A6 (G3 Z Z) Z (D3 (I5 17 Z) Z (F7 (C4 TySz.out Z Z Z Z Z Z) (B0 ?_)))));refine k1 ?_;refine A7 (A6 (A8 Z Z) Z (A6 (B1 Z) Z (A6 (B2 Z Z Z) Z (A6 (B1 Z) Z (A6 (B2 Z Z Z) Z (A6 (J1 Z Z Z (by omega) (by (rw[M,J];omega))) Z ?_))))));refine F7 (N8 TySz.out Z Z (by (rw[M,J];omega)) Z Z) ?_;refine B0 ?_;rw[<-hs];refine k4 (k1 ?_);refine A7 (A6 (D2 Z Z (by omega)) Z (A6 (A8 Z Z) Z (B0 ?_)));refine k1 ?_;exact⟨k+1,by omega,by omega,Sees.of ⟨B4 rfl,B4 rfl,B4 rfl,B4 rfl,trivial⟩ ⟨rfl,trivial⟩⟩
 have ad:k=b.length:=by have v:=A1 F;(try dsimp only at v);omega
 rw[ad];refine I9 (Sees.freeze (k:=751) Z) ?_;refine k6 (k2 ?_);refine A7 (A6 (A8 Z Z) Z (A6 (A9 Z Z) Z (B0 ?_)));refine k1 (J0 ?_);exact C0 (rs:=[O5 (bR b o b.length)]) (H7 rfl rfl rfl) rfl
def DR(i:Int):Value:=.int .i64 i
theorem oH(a:Int):MapKept.IsKey (.int .i64) (DR a):=rfl
theorem oI(a b:Int)(h:DR a=DR b):a=b:=by
 simp only[DR,Value.int.injEq]at h;exact h.2
theorem DS{k:Nat}{a:List Nat}{gf:Fr}{α:Type}{ec:Nat}{c:α->Nat->Cell}{xs:List α}(b:K1 a k=true):Tail (C9 a gf) (QN (SV.freeze k α ec c xs) (C9 a gf)):=by
 rw[CU (fS (eO b))];exact E0
theorem wO{k:Nat}{α:Type}{a:Nat}{c:α->Nat->Cell}{b:List α}(o:Ob):(o.forget k).freeze k α a c b=o.forget k:=by
 have h:∀t:TC,(t.forget k).freeze k α a c b=t.forget k:=fun t=>TC.freeze_free (TC.free_forget k t);cases o<;>simp[Ob.forget,Ob.freeze,h]
theorem HH{K f:List Nat}{ob:Obs}{k:Nat}{α:Type}{ec:Nat}{c:α->Nat->Cell}{xs:List α}(h:K1 f k=true)(g:C2 ob k=none) :
  ∀j x,K1 K j=false->C2 (G6 f ob) j=some x->C2 (QM (Ob.freeze k α ec c xs) (Obs.drop k (G6 f ob))) j=some x:=by
 intro j x _ a;have d:j≠k:=by
  rintro rfl;rw[O0 g]at a;cases a
 rw[getO_mapO,L5 d,a];have b:=a;rw[<-y3 h,I6,a]at b;have e:Ob.forget k x=x:=Option.some.inj b;show some (Ob.freeze k α ec c xs x)=some x;rw[<-e,wO]
abbrev oJ:S1:=.one (.ref 820 0)
abbrev iJ(g:Graph)(path:Str):Ob:=.box [.p (.list Commit 3 I0 g),.p (.v (.string ⟨path.toArray⟩)),.mut 821]
abbrev BU(b:List (Int×Cell)):Ob:=.map Int DR b
theorem zP(g:Graph)(c:Nat)(d b:Str)(h:FewT g)(y:z1 g c=0)(D:H1 (F5 g c) d=some b)(hb:Few b) :
  AL.Met Tryz.prog 49 [.one (.p (.list Commit 3 I0 g)),.one (.p (.v (.int .i64 c))),.one (.p (.v (.string ⟨d.toArray⟩)))] [] [] [] (fun rs ob'=>rs=[oJ,.one (.p (.v (.int .i64 (D8 b).length))),.one (.p (.v (.int .i64 0)))]/\ob'=[(820,iJ g d),(821,BU [])]):=by
 obtain⟨I,_,H⟩:=cX y;have q:c<g.length:=by omega
 have G:O6 g=0:=by
  unfold z1 at y;split at y
  ·assumption
  ·rename_i E;exact Decidable.not_not.1 E
 have z:=mK g h;rw[G]at z;have B:=tK g c;rw[A2 (show l3 g (c:Int) from⟨by omega,by omega⟩)]at B;obtain⟨k,w⟩:∃k,k=g[c]:=⟨_,rfl⟩
 have j:g[((c:Nat):Int).toNat]?=some k:=by rw[w];simp[q]
 have x:F5 g c=k.Files:=p7 (by rw[RI]at j;exact j);have m:(F5 g c).length<=1073741824:=(h.files c).len;rw[x]at m D;have A:=iE k.Files d m;rw[D]at A;have F:=hb.1;have C:=jW b (by omega);rw[dG hb]at C;refine AL.Met.intro Tryz.func49 (by decide) Z Z Z ?_;refine k2 ?_;refine A7 (A6 (A9 Z Z) Z (A6 (A9 Z Z) Z (A6 (A9 Z Z) Z (B0 ?_))));refine k1 (k2 (k2 ?_));refine A7 (A6 (A8 Z Z) Z (C7 (z) Z Z Z ?_));rintro _ rfl;refine A6 (A9 Z Z) Z (B0 ?_);refine k1 (k2 ?_);refine A7 (A6 (A8 Z Z) Z (A6 (P6 Z Z) Z (B0 ?_)));refine k1 ?_;refine B7 rfl (fun f=>?_) (fun f=>?_)
 ·exact absurd rfl (A0 f)
 refine k5 (k1 (k2 (k2 ?_)));refine A7 (A6 (A8 Z Z) Z (A6 (A8 Z Z) Z (C7 (B) Z Z Z ?_)));rintro _ rfl;refine A6 (M8 Z) Z (B0 ?_);refine k1 ?_;refine B7 rfl (fun f=>?_) (fun f=>?_)
 ·cases f
 refine k5 (k1 (k2 ?_));refine A7 (A6 (A8 Z Z) Z (A6 (A8 Z Z) Z (A6 (B8 Z (.pure _ _ _ _) Z (by omega) j) Z (A6 (F6 Z) Z (A6 (C3 Z Z) Z (A6 (A8 Z Z) Z (C7 (A) Z Z Z ?_)))))));rintro _ rfl;refine A6 (A8 Z Z) Z (A6 (B5 Z Z) Z (A6 (B5 Z Z) Z (A6 (A9 Z Z) Z (A6 (A9 Z Z) Z (B0 ?_)))));refine k1 (k2 (k2 ?_));refine A7 (A6 (A8 Z Z) Z (A6 (M8 Z) Z (B0 ?_)));refine k1 ?_;refine B7 rfl (fun f=>?_) (fun f=>?_)
 ·cases f
 refine k5 (k1 (k2 ?_));refine A7 (A6 (A8 Z Z) Z (C7 (C) Z Z Z ?_));rintro _ rfl;refine A6 (A8 Z Z) Z (A6 (B5 Z Z) Z (A6 (B5 Z Z) Z (A6 (A9 Z Z) Z (A6 (A9 Z Z) Z (B0 ?_)))));refine k1 (k2 ?_);refine A7 (A6 (A8 Z Z) Z (A6 (A8 Z Z) Z (D3 (jT 821 Int DR Z) Z (A6 (H0 Z) Z (D3 (bU 820 Z Z Z) Z (A6 (A8 Z Z) Z (A6 (E8 Z (.pure _ _ _ _)) Z (A6 (A9 Z Z) Z (A6 (A9 Z Z) Z (A6 (A9 Z Z) Z (B0 ?_)))))))))));refine k1 (J0 ?_);exact M6 (NU rfl rfl rfl rfl) (by repeat (first | exact E0 | refine tail_drop rfl ?_ | refine E1 rfl ?_)) (fun _ _ h=>h) ⟨rfl,rfl⟩
theorem tV{gf:Fr}{ob:Obs}(g:Graph)(path now:Str)(c:Nat)(q:List (Int×Cell))(h:FewT g)(U:GB g)(T:c<g.length)(W:H1 (F5 g c) path=some now)(hk:KnownOk g path q)
  (h0:C2 ob 820=some (iJ g path)) (G:C2 ob 821=some (BU q)) (h2:C2 ob 822=none) :
  AL.Met Tryz.prog 97 [oJ,.one (.p (.v (.int .i64 c)))] gf ob [821,822] (fun rs ob'=>rs=[.one (.p (jI (t6 g path c)))]/\∃F,KnownOk g path F/\ob'=(820,iJ g path)::(821,BU F)::G6 [821,822] ob):=by
 obtain⟨b,A⟩:∃b,b=g[c]:=⟨_,rfl⟩
 have C:g[((c:Nat):Int).toNat]?=some b:=by rw[A];simp[T]
 have M:F5 g c=b.Files:=p7 (by rw[RI]at C;exact C);have ad:D5 g c=b.Parents:=by rw[j8 T,A]
 have z:(F5 g c).length<=1073741824:=(h.files c).len;have O:=bP U W;have hpr:=(U.pars b (by rw[A];exact RM T)).2;have ae:=(U.pars b (by rw[A];exact RM T)).1;have hF:=iE b.Files path (by rw[<-M];exact z);have K:=W;rw[M]at K;rw[K]at hF;have hS:t6 g path c=Z6 g path now b.Parents:=by unfold t6 bN;rw[W,ad];rfl
 refine AL.Met.introH Tryz.func97 (by decide) rfl rfl rfl (fun I=>?_);refine I9 (QU 821 (l:=[(0,.s oJ),(1,C8 c)]) (L:=[(820,_),(821,_)]) ⟨B4 rfl,B4 rfl,trivial⟩ I (by repeat (first | exact E0 | refine E1 rfl ?_)) ⟨h0,G,trivial⟩) ?_;refine I9 (Sees.forget 822) ?_;refine I9 (QK (gf':=C9 [821,822] gf) (l:=[(0,.s oJ),(1,C8 c)]) (ob':=[(820,iJ g path),(821,BU q)]++G6 [821,822] ob) ⟨B4 rfl,B4 rfl,trivial⟩ (I2 I) (by repeat (first | exact E0 | refine tail_drop rfl ?_ | refine E1 rfl ?_ | refine N4 _ rfl ?_)) (M9 (L:=[(820,_),(821,_)]) ⟨rfl,rfl,trivial⟩ (by repeat (first | exact K2 | refine K9 rfl ?_ | refine R7 _ rfl ?_)))) ?_;have Y:C2 (G6 [821,822] ob) 822=none:=O0 h2;cases B:J3 q (c:Int) with
 | some cl =>
  have z:=hk.get B;rw[RI]at z;subst z;refine k2 ?_;refine A7 (A6 (K7 _ 2 yA) Z (B0 ?_));refine k1 (k2 (k2 ?_));refine A7 (A6 (A8 Z Z) Z (A6 (C1 Z) Z (A6 (B1 Z) Z (A6 (B2 Z Z Z) Z (A6 (A8 Z Z) Z (A6 (cQ ((c:Int)) (r:=some (jI (t6 g path c))) Z Z Z oH oI (B)) Z (A6 (A8 Z Z) Z (A6 (B5 Z Z) Z (A6 (B5 Z Z) Z (A6 (A9 Z Z) Z (A6 (A9 Z Z) Z (B0 ?_))))))))))));refine k1 (k2 ?_);refine A7 (A6 (A8 Z Z) Z (B0 ?_));refine k1 ?_;refine B7 rfl (fun f=>?_) (fun f=>?_);rotate_left
  ·cases f
  refine k2 ?_;refine A7 (A6 (A8 Z Z) Z (A6 (A9 Z Z) Z (B0 ?_)));refine k1 (J0 (M7 ?_));exact M6 (u5 rfl rfl) (by repeat (first | exact E0 | refine tail_drop rfl ?_ | refine E1 rfl ?_ | refine N4 _ rfl ?_)) (M9 (L:=[(820,_),(821,_)]) ⟨rfl,rfl,trivial⟩ (by repeat (first | exact K2 | refine K9 rfl ?_ | refine R7 _ rfl ?_))) ⟨rfl,q,hk,rfl⟩
 | none =>
  have E:=FB hk (c:Int);rw[RI,hS]at E;rw[hS];refine k2 ?_;refine A7 (A6 (K7 _ 2 yA) Z (B0 ?_));refine k1 (k2 (k2 ?_));refine A7 (A6 (A8 Z Z) Z (A6 (C1 Z) Z (A6 (B1 Z) Z (A6 (B2 Z Z Z) Z (A6 (A8 Z Z) Z (A6 (cQ ((c:Int)) (r:=none) Z Z Z oH oI (B)) Z (A6 (A8 Z Z) Z (A6 (B5 Z Z) Z (A6 (B5 Z Z) Z (A6 (A9 Z Z) Z (A6 (A9 Z Z) Z (B0 ?_))))))))))));refine k1 (k2 ?_);refine A7 (A6 (A8 Z Z) Z (B0 ?_));refine k1 ?_;refine B7 rfl (fun f=>?_) (fun f=>?_)
  ·cases f
  refine k5 (k1 (k2 ?_));refine F1 (by kernel_rfl) (by kernel_rfl) (B6 (A8 Z Z) Z Z (B6 (C1 Z) Z Z (B6 (B1 Z) Z Z (B6 (B2 Z Z Z) Z Z (B6 (A8 Z Z) Z Z (B6 (B8 Z (.pure _ _ _ _) Z (by omega) C) Z Z (B6 (F6 Z) Z Z (B6 (C3 Z Z) Z Z (B6 (A8 Z Z) Z Z (B6 (C1 Z) Z Z (B6 (B1 Z) Z Z (B6 (B2 Z Z Z) Z Z (B6 (K4 (hF) Z Z) Z Z (B6 (A8 Z Z) Z Z (B6 (B5 Z Z) Z Z (B6 (B5 Z Z) Z Z (B6 (A9 Z Z) Z Z (B6 (A9 Z Z) Z Z (T3 ?_)))))))))))))))))));refine k1 (k2 ?_);refine A7 (D3 (GI 822 _ yA Y Z) Z (B0 ?_));refine k1 (k2 (k2 ?_));refine A7 (A6 (A8 Z Z) Z (A6 (C1 Z) Z (A6 (B1 Z) Z (A6 (B2 Z Z Z) Z (A6 (A8 Z Z) Z (A6 (B8 Z (.pure _ _ _ _) Z (by omega) C) Z (A6 (F6 Z) Z (A6 (C3 Z Z) Z (A6 (E8 Z (.pure _ _ _ _)) Z (A6 (A8 Z Z) Z (B0 ?_)))))))))));refine k1 (k3 ?_);refine E3 (X:=Nat) (fun i=>([(0,.s oJ),(1,C8 c),(7,O4 now),(9,.s (.one (.mut 822))),(48,E2 Int 1 G4 b.Parents),(49,C8 b.Parents.length),(50,C8 i)]++C9 [821,822] gf,[(820,iJ g path),(821,BU q),(822,.grow 181 Src 2 yA (dP g path now b.Parents i))]++G6 [821,822] ob)) (fun i=>i<=b.Parents.length) (fun i=>b.Parents.length-i) 0 (Nat.zero_le _) ?_ ?_
  ·exact QK ⟨B4 rfl,B4 rfl,B4 rfl,B4 rfl,B4 rfl,B4 rfl,B4 rfl,trivial⟩ (I2 I) (by repeat (first | exact E0 | refine tail_drop rfl ?_ | refine E1 rfl ?_ | refine N4 _ rfl ?_)) (M9 (L:=[(820,_),(821,_),(822,_)]) ⟨rfl,rfl,rfl,trivial⟩ (by repeat (first | exact K2 | refine K9 rfl ?_ | refine R7 _ rfl ?_)))
  intro i hi;dsimp only at hi ⊢;have af:(dP g path now b.Parents i).length<=3:=by
   have G:=kU (g:=g) (path:=path) (now:=now) (b.Parents.take i);rw[RV]at G;unfold dP;omega
  refine k2 ?_;refine A7 (A6 (F3 Z Z) Z (B0 ?_));refine k1 (k2 ?_);refine B7 rfl (fun f=>?_) (fun f=>?_);rotate_left
  ·have ab:i=b.Parents.length:=by have G:=A1 f;(try dsimp only at G);omega
   have J:dP g path now b.Parents i=Z6 g path now b.Parents:=by rw[ab];unfold dP;rw[RS]
   rw[J];refine I9 (Sees.freezeG (k:=822) (α:=Src) (ec:=2) (c:=yA) (xs:=Z6 g path now b.Parents) (e:=181) Z Z) ?_;refine k6 (k2 ?_);refine A7 (A6 (A8 Z Z) Z (A6 (C1 Z) Z (A6 (B1 Z) Z (A6 (B2 Z Z Z) Z (A6 (A8 Z Z) Z (A6 (A8 Z Z) Z (F7 (nP ((c:Int)) Z Z Z Z Z oH oI (B)) (B0 ?_))))))));refine k1 (k2 ?_);refine A7 (A6 (A8 Z Z) Z (A6 (A9 Z Z) Z (B0 ?_)));refine k1 (J0 ?_);exact M6 (u5 rfl rfl) (by repeat (first | exact E0 | refine tail_drop rfl ?_ | refine E1 rfl ?_ | refine N4 _ rfl ?_ | exact DS rfl)) (M9 (L:=[(820,_),(821,_)]) ⟨rfl,rfl,trivial⟩ (by repeat (first | exact K2 | refine K9 rfl ?_ | refine R7 _ rfl ?_ | exact HH rfl h2))) ⟨rfl,_,E,rfl⟩
  have P:i<b.Parents.length:=by have G:=A0 f;(try dsimp only at G);omega
  have ac:=hpr _ (RM P);obtain⟨p,hp⟩:∃p:Nat,b.Parents[i]=(p:Int):=⟨b.Parents[i].toNat,by omega⟩
  rw[hp]at ac;have D:b.Parents[i]?=some (p:Int):=by rw[RG P,hp]
  have R:p<g.length:=by omega
  obtain⟨S,hpm⟩:∃S,S=g[p]:=⟨_,rfl⟩
  have j:g[((p:Nat):Int).toNat]?=some S:=by rw[hpm];simp[R]
  have H:F5 g p=S.Files:=p7 (by rw[RI]at j;exact j);have Q:(F5 g p).length<=1073741824:=(h.files p).len;have y:=iE S.Files path (by rw[<-H];exact Q);cases x:H1 (F5 g p) path with
  | none =>
   have V:=BC (g:=g) (path:=path) (now:=now) D (by rw[RI];exact x);have d:=x;rw[H]at d;rw[d]at y;refine k5 (k1 (k2 (k3 (k2 ?_))));refine A7 (A6 (B8 Z (.pure _ _ _ _) Z (by omega) D) Z (A6 (C3 Z Z) Z (A6 (A9 Z Z) Z (B0 ?_))));refine k1 (k2 ?_);refine F1 (by kernel_rfl) (by kernel_rfl) (B6 (A8 Z Z) Z Z (B6 (C1 Z) Z Z (B6 (B1 Z) Z Z (B6 (B2 Z Z Z) Z Z (B6 (A8 Z Z) Z Z (B6 (B8 Z (.pure _ _ _ _) Z (by omega) j) Z Z (B6 (F6 Z) Z Z (B6 (C3 Z Z) Z Z (B6 (A8 Z Z) Z Z (B6 (C1 Z) Z Z (B6 (B1 Z) Z Z (B6 (B2 Z Z Z) Z Z (B6 (K4 (y) Z Z) Z Z (B6 (A8 Z Z) Z Z (B6 (B5 Z Z) Z Z (B6 (B5 Z Z) Z Z (B6 (A9 Z Z) Z Z (B6 (A9 Z Z) Z Z (T3 ?_)))))))))))))))))));refine k1 (k2 ?_);refine A7 (A6 (A8 Z Z) Z (B0 ?_));refine k1 ?_;refine B7 rfl (fun f=>?_) (fun f=>?_)
   ·cases f
   refine k5 (k4 (k1 ?_));refine A7 (A6 (D2 Z Z (by omega)) Z (A6 (A8 Z Z) Z (B0 ?_)));refine k1 ?_;refine⟨i+1,by omega,by omega,?_⟩;rw[V];exact QK ⟨B4 rfl,B4 rfl,B4 rfl,B4 rfl,B4 rfl,B4 rfl,B4 rfl,trivial⟩ (I2 I) (by repeat (first | exact E0 | refine tail_drop rfl ?_ | refine E1 rfl ?_ | refine N4 _ rfl ?_)) (M9 (L:=[(820,_),(821,_),(822,_)]) ⟨rfl,rfl,rfl,trivial⟩ (by repeat (first | exact K2 | refine K9 rfl ?_ | refine R7 _ rfl ?_)))
  | some old =>
   have V:=BB (g:=g) (path:=path) (now:=now) D (by rw[RI];exact x);have hP:=tU old now (bP U x) O;obtain⟨L,hL⟩:∃L,L=bQ (D8 old) (D8 now):=⟨_,rfl⟩
   rw[<-hL]at hP V;have d:=x;rw[H]at d;rw[d]at y;refine k5 (k1 (k2 (k3 (k2 ?_))));refine A7 (A6 (B8 Z (.pure _ _ _ _) Z (by omega) D) Z (A6 (C3 Z Z) Z (A6 (A9 Z Z) Z (B0 ?_))));refine k1 (k2 ?_);refine F1 (by kernel_rfl) (by kernel_rfl) (B6 (A8 Z Z) Z Z (B6 (C1 Z) Z Z (B6 (B1 Z) Z Z (B6 (B2 Z Z Z) Z Z (B6 (A8 Z Z) Z Z (B6 (B8 Z (.pure _ _ _ _) Z (by omega) j) Z Z (B6 (F6 Z) Z Z (B6 (C3 Z Z) Z Z (B6 (A8 Z Z) Z Z (B6 (C1 Z) Z Z (B6 (B1 Z) Z Z (B6 (B2 Z Z Z) Z Z (B6 (K4 (y) Z Z) Z Z (B6 (A8 Z Z) Z Z (B6 (B5 Z Z) Z Z (B6 (B5 Z Z) Z Z (B6 (A9 Z Z) Z Z (B6 (A9 Z Z) Z Z (T3 ?_)))))))))))))))))));refine k1 (k2 ?_);refine A7 (A6 (A8 Z Z) Z (B0 ?_));refine k1 ?_;refine B7 rfl (fun f=>?_) (fun f=>?_);rotate_left
   ·cases f
   skip;refine A7 (A6 (A8 Z Z) Z (A6 (A8 Z Z) Z (A6 (A8 Z Z) Z (A6 (A8 Z Z) Z (C7 (hP) Z Z Z ?_)))));rintro _ rfl;refine A6 (H0 Z) Z (A6 (D9 (c:=yA) (ys:=[(((p:Nat):Int),L)]) (D4 Z Z Z Z H3) Z Z Z) Z (D3 (yP Z Z Z (.pure _ _ _ _) (by (simp only[RJ,RP];omega)) Z) Z (A6 (A9 Z Z) Z (B0 ?_))));refine k4 (k1 ?_);refine A7 (A6 (D2 Z Z (by omega)) Z (A6 (A8 Z Z) Z (B0 ?_)));refine k1 ?_;refine⟨i+1,by omega,by omega,?_⟩;rw[V];exact QK ⟨B4 rfl,B4 rfl,B4 rfl,B4 rfl,B4 rfl,B4 rfl,B4 rfl,trivial⟩ (I2 I) (by repeat (first | exact E0 | refine tail_drop rfl ?_ | refine E1 rfl ?_ | refine N4 _ rfl ?_)) (M9 (L:=[(820,_),(821,_),(822,_)]) ⟨rfl,rfl,rfl,trivial⟩ (by repeat (first | exact K2 | refine K9 rfl ?_ | refine R7 _ rfl ?_)))
abbrev JN(a:Int×Int):S1:=.agg [.p (.v (.int .i64 a.1)),.p (.v (.int .i64 a.2))]
theorem rP{gf:Fr}{ob:Obs}(g:Graph)(path v:Str)(a:Int×Int)(A:List (Int×Cell))(h:FewT g)(hg:GB g)(hl:LineAt g path v a)(hk:KnownOk g path A)
  (h0:C2 ob 820=some (iJ g path)) (G:C2 ob 821=some (BU A)) (h2:C2 ob 822=none) (h3:C2 ob 823=none) (h4:C2 ob 824=none) :
  AL.Met Tryz.prog 50 [oJ,JN a] gf ob [821,822,823,824] (fun rs ob'=>rs=[JN ((z7 g path a).getD (0,0)),.one (.p (.v (.bool (z7 g path a).isSome)))]/\∃d,KnownOk g path d/\ob'=(820,iJ g path)::(821,BU d)::G6 [821,822,823,824] ob):=by
 obtain⟨now,O,q⟩:=hl.b;have T:=hl.c;have Y:=hl.i;obtain⟨a1,a2⟩:=a;dsimp only at T Y O q;obtain⟨c,R⟩:∃c:Nat,a1=(c:Int):=⟨a1.toNat,by omega⟩
 obtain⟨n,ad⟩:∃n:Nat,a2=(n:Int):=⟨a2.toNat,by omega⟩
 subst R ad;rw[RI]at O q;have ag:n<(D8 now).length:=(List.getElem?_eq_some_iff.1 q).1;obtain⟨S,M⟩:∃S,S=t6 g path c:=⟨_,rfl⟩
 have C:z7 g path ((c:Int),(n:Int))=z6 S n:=by unfold z7;rw[M];rfl
 have B:c<g.length:=by omega
 have af:S.length<=3:=by
  rw[M];have h5:=kU (g:=g) (path:=path) (now:=bN (F5 g c) path) (D5 g c);have h6:(D5 g c).length<=3:=by rw[j8 B];exact (hg.pars _ (RM B)).1
  unfold t6;omega
 have Q:∀s∈S,s.2.length=(D8 now).length:=fun s P=>by
  rw[M]at P;rw[FC P];unfold bN;rw[O];rfl
 rw[C];refine AL.Met.introH Tryz.func50 (by decide) rfl rfl rfl (fun H=>?_);refine I9 (QU 821 (l:=[(0,.s oJ),(1,.s (JN ((c:Int),(n:Int))))]) (L:=[(820,_),(821,_)]) ⟨B4 rfl,B4 rfl,trivial⟩ H (by repeat (first | exact E0 | refine E1 rfl ?_)) ⟨h0,G,trivial⟩) ?_;refine I9 (Sees.forget 822) ?_;refine I9 (Sees.forget 823) ?_;refine I9 (Sees.forget 824) ?_;refine I9 (QK (gf':=C9 [821,822,823,824] gf) (l:=[(0,.s oJ),(1,.s (JN ((c:Int),(n:Int))))]) (ob':=[(820,iJ g path),(821,BU A)]++G6 [821,822,823,824] ob) ⟨B4 rfl,B4 rfl,trivial⟩ (I2 H) (by repeat (first | exact E0 | refine tail_drop rfl ?_ | refine E1 rfl ?_ | refine N4 _ rfl ?_)) (M9 (L:=[(820,_),(821,_)]) ⟨rfl,rfl,trivial⟩ (by repeat (first | exact K2 | refine K9 rfl ?_ | refine R7 _ rfl ?_)))) ?_;have U:C2 (G6 [821,822,823,824] ob) 822=none:=O0 h2;have V:C2 (G6 [821,822,823,824] ob) 823=none:=O0 h3;have W:C2 (G6 [821,822,823,824] ob) 824=none:=O0 h4;refine k2 ?_;refine A7 (A6 (GO Z Z Z) Z (D3 (sT 823 V (by decide)) Z (A6 (A9 Z Z) Z (B0 ?_))));refine k1 (k2 (k2 ?_));refine I9 (QK (gf':=C9 [821,822,823,824] gf) (l:=[(0,.s oJ),(3,.s (.one (.eref Unit 2 (fun _ j=>[Cell.v (.int .i64 c),Cell.v (.int .i64 n)].getD j (.v undef)) () 0))),(4,.s (.one (.ref 823 0)))]) (ob':=[(820,iJ g path),(821,BU A),(823,.box [.p (.v (.int .i64 0)),.p (.v (.int .i64 0))])]++G6 [821,822,823,824] ob) ⟨B4 rfl,B4 rfl,B4 rfl,trivial⟩ (I2 H) (by repeat (first | exact E0 | refine tail_drop rfl ?_ | refine E1 rfl ?_ | refine N4 _ rfl ?_)) (M9 (L:=[(820,_),(821,_),(823,_)]) ⟨rfl,rfl,rfl,trivial⟩ (by repeat (first | exact K2 | refine K9 rfl ?_ | refine R7 _ rfl ?_)))) ?_;refine A7 (A6 (A8 Z Z) Z (A6 (F6 Z) Z (A6 (C3 Z Z) Z (aE (tV g path now c A h hg B O hk Z Z U) Z Z Z ?_))));rintro _ _ ⟨rfl,d,I,rfl⟩;refine A6 (E8 Z (.pure _ _ _ _)) Z (A6 (A8 Z Z) Z (B0 ?_));rw[<-M];refine k1 (k3 ?_);refine E3 (X:=Nat) (fun k=>([(3,.s (.one (.eref Unit 2 (fun _ j=>[Cell.v (.int .i64 c),Cell.v (.int .i64 n)].getD j (.v undef)) () 0))),(4,.s (.one (.ref 823 0))),(12,E2 Src 2 yA S),(13,C8 S.length),(14,C8 k)]++C9 [821,822,823,824] gf,[(820,iJ g path),(821,BU d),(823,.box [.p (.v (.int .i64 0)),.p (.v (.int .i64 0))])]++G6 [821,822,823,824] ob)) (fun k=>k<=S.length/\z6 S n=z6 (S.drop k) n) (fun k=>S.length-k) 0 ⟨Nat.zero_le _,rfl⟩ ?_ ?_
 ·exact QK ⟨B4 rfl,B4 rfl,B4 rfl,B4 rfl,B4 rfl,trivial⟩ (I2 H) (by repeat (first | exact E0 | refine tail_drop rfl ?_ | refine E1 rfl ?_ | refine N4 _ rfl ?_)) (M9 (L:=[(820,_),(821,_),(823,_)]) ⟨rfl,rfl,rfl,trivial⟩ (by repeat (first | exact K2 | refine K9 rfl ?_ | refine R7 _ rfl ?_)))
 rintro k ⟨ab,z⟩;dsimp only at ab z ⊢;refine k2 ?_;refine A7 (A6 (F3 Z Z) Z (B0 ?_));refine k1 (k2 ?_);refine B7 rfl (fun E=>?_) (fun E=>?_);rotate_left
 ·have ac:k=S.length:=by have G:=A1 E;(try dsimp only at G);omega
  rw[ac,List.drop_length]at z;rw[z];refine k6 (k2 ?_);refine A7 (A6 (H0 Z) Z (F7 (C4 TySz.out Z Z Z Z Z Z) (A6 (A9 Z Z) Z (B0 ?_))));refine k1 (J0 ?_);exact M6 (RetOk.sAll (ps:=[.agg [.v (.int .i64 0),.v (.int .i64 0)],G5 false]) (gP rfl rfl rfl rfl rfl rfl rfl)) (by repeat (first | exact E0 | refine tail_drop rfl ?_ | refine E1 rfl ?_ | refine N4 _ rfl ?_)) (M9 (L:=[(820,_),(821,_)]) ⟨rfl,rfl,trivial⟩ (by repeat (first | exact K2 | refine K9 rfl ?_ | refine U3 (by assumption) ?_ | refine R7 _ rfl ?_))) ⟨rfl,d,I,rfl⟩
 have J:k<S.length:=by have G:=A0 E;(try dsimp only at G);omega
 obtain⟨s,P⟩:∃s,s=S[k]:=⟨_,rfl⟩
 have hv:S[k]?=some s:=by rw[P];exact RG J
 have ah:=Q s (SA hv);obtain⟨w,hw⟩:∃w,w=s.2[n]'(by omega):=⟨_,rfl⟩
 have K:s.2[n]?=some w:=by rw[hw];exact RG (by omega)
 have ae:s.2[((n:Nat):Int).toNat]?=some w:=by rw[RI];exact K
 have y:=yB (i:=n) hv;rw[K]at y;dsimp only at y;refine k5 (k1 (k2 (k3 (k2 ?_))));refine A7 (A6 (B8 Z (.pure _ _ _ _) Z (by omega) hv) Z (A6 (G3 Z Z) Z (D3 (sT 824 W (by decide)) Z (F7 (C4 TySz.out Z Z Z Z Z Z) (B0 ?_)))));refine k1 (k2 ?_);refine A7 (A6 (B1 Z) Z (A6 (B2 Z Z Z) Z (A6 (F6 Z) Z (A6 (C3 Z Z) Z (A6 (B8 Z (.pure _ _ _ _) Z (by omega) ae) Z (A6 (C3 Z Z) Z (A6 (A9 Z Z) Z (B0 ?_))))))));refine k1 (k2 ?_);refine A7 (A6 (A8 Z Z) Z (A6 (r5 Z Z) Z (B0 ?_)));refine k1 ?_;refine B7 rfl (fun E=>?_) (fun E=>?_)
 ·have F:0<=w:=A0 E;rw[A4 F]at y;rw[z,y];refine k2 ?_;refine A7 (A6 (B1 Z) Z (A6 (B2 Z Z Z) Z (A6 (A8 Z Z) Z (A6 (H0 Z) Z (F7 (C4 TySz.out Z Z Z Z Z Z) (A6 (A9 Z Z) Z (B0 ?_)))))));refine k1 (J0 (X3 (M7 (M7 (X3 (M7 ?_))))));exact M6 (RetOk.sAll (ps:=[.agg [.v (.int .i64 s.1),.v (.int .i64 w)],G5 true]) (gP rfl rfl rfl rfl rfl rfl rfl)) (by repeat (first | exact E0 | refine tail_drop rfl ?_ | refine E1 rfl ?_ | refine N4 _ rfl ?_)) (M9 (L:=[(820,_),(821,_)]) ⟨rfl,rfl,trivial⟩ (by repeat (first | exact K2 | refine K9 rfl ?_ | refine U3 (by assumption) ?_ | refine R7 _ rfl ?_))) ⟨rfl,d,I,rfl⟩
 ·have F:¬0<=w:=A1 E;rw[A5 F]at y;refine k5 (k4 (k1 ?_));refine A7 (A6 (D2 Z Z (by omega)) Z (A6 (A8 Z Z) Z (B0 ?_)));refine k1 ?_;exact⟨k+1,⟨J,by rw[z,y]⟩,by omega,QK ⟨B4 rfl,B4 rfl,B4 rfl,B4 rfl,B4 rfl,trivial⟩ (I2 H) (by repeat (first | exact E0 | refine tail_drop rfl ?_ | refine E1 rfl ?_ | refine N4 _ rfl ?_)) (M9 (L:=[(820,_),(821,_),(823,_)]) ⟨rfl,rfl,rfl,trivial⟩ (by repeat (first | exact K2 | refine K9 rfl ?_ | refine U3 (by assumption) ?_ | refine R7 _ rfl ?_)))⟩
def jZ:Int×Int->Nat->Cell:=fun a j=>match j with
 | 0=>.v (.int .i64 a.1)
 | _=>.v (.int .i64 a.2)
theorem zQ(g:Graph)(a:Str)(c i:Nat):S6 g a c (i+1)=S6 g a c i++[jH g a ((c:Int),(i:Int))]:=by
 unfold S6;rw[TH,SN];rfl
theorem rQ(g:Graph)(a:Str)(c i:Nat):(S6 g a c i).length=i:=by unfold S6;rw[SM,SS]
theorem rR(g:Graph)(c:Nat)(d j:Str)(h:FewT g)(D:GB g)(hk:z1 g c=0)(Q:H1 (F5 g c) d=some j) :
  FnOk Tryz.prog 18 [G7 g,E7 c,G8 d] (fun rs=>rs=[.one (.list (Int×Int) 2 jZ (S6 g d c (D8 j).length)),E7 0]):=by
 obtain⟨hv,_,hc⟩:=cX hk;have hb:=bP D Q;have P:=hb.2;obtain⟨n,hn⟩:∃n,n=(D8 j).length:=⟨_,rfl⟩
 have hB:=zP g c d j h hk Q hb;rw[<-hn]at hB P ⊢;refine FnOk.intro Tryz.func18 (by decide) Z Z Z Z ?_;refine k2 ?_;refine A7 (A6 (K7 _ 2 jZ) Z (A6 (A9 Z Z) Z (B0 ?_)));refine k1 (k2 ?_);refine A7 (A6 (A8 Z Z) Z (A6 (A8 Z Z) Z (A6 (A8 Z Z) Z (vP (hB) Z Z Z Z ?_))));rintro _ _ ⟨rfl,rfl⟩;refine⟨rfl,?_⟩;refine A6 (A8 Z Z) Z (A6 (B5 Z Z) Z (A6 (B5 Z Z) Z (A6 (B5 Z Z) Z (A6 (A9 Z Z) Z (A6 (A9 Z Z) Z (A6 (A9 Z Z) Z (B0 ?_)))))));refine k1 (k2 (k2 ?_));refine A7 (A6 (A8 Z Z) Z (A6 (P6 Z Z) Z (B0 ?_)));refine k1 ?_;refine B7 rfl (fun y=>?_) (fun y=>?_)
 ·exact absurd rfl (A0 y)
 refine k5 (k1 (k2 ?_));refine A7 (D3 (u0 11 _ jZ Z) Z (B0 ?_));refine k1 (k2 (k2 ?_));refine A7 (A6 (A8 Z Z) Z (A6 (A8 Z Z) Z (B0 ?_)));refine k1 (k3 ?_);refine E3 (X:=Nat×List Int) (fun x=>([(1,C8 c),(8,.s oJ),(11,.s (.one (.buf 11 (Int×Int) 2 jZ (S6 g d c x.1)))),(27,C8 n),(28,C8 x.1)],[(820,iJ g d),(821,BU (o8 g d x.2)),(11,.spare (S6 g d c x.1).length 2 59)])) (fun x=>x.1<=n) (fun x=>n-x.1) (0,[]) (Nat.zero_le _) (Sees.of ⟨B4 rfl,B4 rfl,B4 rfl,B4 rfl,B4 rfl,trivial⟩ ⟨rfl,rfl,rfl,trivial⟩) ?_;rintro⟨i,ac⟩ hi;dsimp only at hi ⊢;have af:=rQ g d c i;refine k2 ?_;refine A7 (A6 (F3 Z Z) Z (B0 ?_));refine k1 (k2 ?_);refine B7 rfl (fun y=>?_) (fun y=>?_);rotate_left
 ·have R:i=n:=by have M:=A1 y;(try dsimp only at M);omega
  rw[R];refine k6 (k2 ?_);refine A7 (A6 (A8 Z Z) Z (A6 (A9 Z Z) Z (A6 (A9 Z Z) Z (B0 ?_))));refine k1 (J0 ?_);exact C0 (rs:=[.one (.list (Int×Int) 2 jZ (S6 g d c n)),E7 0]) (Z7 rfl rfl rfl rfl rfl) rfl
 have U:i<n:=by have M:=A0 y;(try dsimp only at M);omega
 have q:=zQ g d c i;obtain⟨v,V⟩:∃v,v=(D8 j)[i]'(by omega):=⟨_,rfl⟩
 have T:LineAt g d v ((c:Int),(i:Int)):=⟨⟨by omega,hc⟩,by omega,j,Q,by rw[V];exact RG _⟩
 obtain⟨O,hO⟩:∃O,O=jH g d ((c:Int),(i:Int)):=⟨_,rfl⟩
 have Y:InWay g c 0:=InWay.initB D (by omega);rw[<-hO]at q;refine k5 (k1 (k2 (k3 (k2 ?_))));refine A7 (A6 (A8 Z Z) Z (A6 (A9 Z Z) Z (B0 ?_)));refine k1 (k2 ?_);refine A7 (A6 (A8 Z Z) Z (A6 (A8 Z Z) Z (A6 (H0 Z) Z (D3 (I5 13 Z) Z (F7 (C4 TySz.out Z Z Z Z Z Z) (B0 ?_))))));refine k1 (k2 (k3 ?_));refine E3 (X:=Nat×(Int×Int)×List Int) (fun x=>([(1,C8 c),(8,.s oJ),(11,.s (.one (.buf 11 (Int×Int) 2 jZ (S6 g d c i)))),(13,.s (.one (.ref 13 0))),(27,C8 n),(28,C8 i)],[(820,iJ g d),(821,BU (o8 g d x.2.2)),(11,.spare (S6 g d c i).length 2 59),(13,.box [.p (.v (.int .i64 x.2.1.1)),.p (.v (.int .i64 x.2.1.2))])])) (fun x=>LineAt g d v x.2.1/\InWay g x.2.1.1.toNat x.1/\g9 g d (g.length-x.1) x.2.1=O) (fun x=>g.length-x.1) (0,((c:Int),(i:Int)),ac) ⟨T,Y,hO.symm⟩ (Sees.of ⟨B4 rfl,B4 rfl,B4 rfl,B4 rfl,B4 rfl,B4 rfl,trivial⟩ ⟨rfl,rfl,rfl,rfl,trivial⟩) ?_;rintro⟨m,a,w⟩ ⟨E,W,A⟩;dsimp only at E W A ⊢;have ag:=E.c;have ae:=W.lt (by omega);cases z:z7 g d a with
 | none =>
  have C:=fun {gf:Fr} {ob:Obs} (H:C2 ob 820=some (iJ g d)) (I:C2 ob 821=some (BU (o8 g d w))) (J:C2 ob 822=none) (K:C2 ob 823=none) (L:C2 ob 824=none)=>rP (gf:=gf) g d v a (o8 g d w) h D E ⟨w,rfl⟩ H I J K L;rw[z]at C;have N:O=a:=by rw[<-A];exact xY z _
  refine k3 (k2 ?_);refine A7 (A6 (A8 Z Z) Z (A6 (F4 Z Z Z) Z (aE (C Z Z Z Z Z) Z Z Z ?_)));rintro _ _ ⟨rfl,_,⟨B,rfl⟩,rfl⟩;refine A6 (A8 Z Z) Z (A6 (B5 Z Z) Z (A6 (B5 Z Z) Z (D3 (I5 14 Z) Z (F7 (C4 TySz.out Z Z Z Z Z Z) (A6 (A9 Z Z) Z (B0 ?_))))));refine k1 (k2 (k2 ?_));refine A7 (A6 (A8 Z Z) Z (A6 (M8 Z) Z (B0 ?_)));refine k1 ?_;refine B7 rfl (fun y=>?_) (fun y=>?_);rotate_left
  ·cases y
  rw[N]at q;refine k6 (k7 (k9 Z (k7 (k8 Z (k1 ?_)))));refine A7 (A6 (A8 Z Z) Z (A6 (F4 Z Z Z) Z (A6 (D9 (c:=jZ) (ys:=[a]) (D4 Z Z Z Z H3) Z Z Z) Z (D3 (K8 Z Z Z (.pure _ _ _ _) (by (simp only[RJ,RP];omega)) Z) Z (A6 (A9 Z Z) Z (B0 ?_))))));rw[<-q];refine k4 (k1 ?_);refine A7 (A6 (D2 Z Z (by omega)) Z (A6 (A8 Z Z) Z (B0 ?_)));refine k1 ?_;exact⟨(i+1,B),U,by dsimp only;omega,(by dsimp only;rw[q];exact (Sees.of ⟨B4 rfl,B4 rfl,B4 rfl,B4 rfl,B4 rfl,trivial⟩ ⟨rfl,rfl,rfl,trivial⟩))⟩
 | some b =>
  have C:=fun {gf:Fr} {ob:Obs} (H:C2 ob 820=some (iJ g d)) (I:C2 ob 821=some (BU (o8 g d w))) (J:C2 ob 822=none) (K:C2 ob 823=none) (L:C2 ob 824=none)=>rP (gf:=gf) g d v a (o8 g d w) h D E ⟨w,rfl⟩ H I J K L;rw[z]at C;obtain⟨F,G⟩:=E.step D z;have ad:=F.c;have ab:=W.step (p:=b.1.toNat) (by rw[show ((b.1.toNat:Nat):Int)=b.1 by omega];exact G);obtain⟨k,S⟩:∃k,g.length-m=k+1:=⟨g.length-m-1,by omega⟩
  rw[S,EX z]at A;refine k3 (k2 ?_);refine A7 (A6 (A8 Z Z) Z (A6 (F4 Z Z Z) Z (aE (C Z Z Z Z Z) Z Z Z ?_)));rintro _ _ ⟨rfl,_,⟨B,rfl⟩,rfl⟩;refine A6 (A8 Z Z) Z (A6 (B5 Z Z) Z (A6 (B5 Z Z) Z (D3 (I5 14 Z) Z (F7 (C4 TySz.out Z Z Z Z Z Z) (A6 (A9 Z Z) Z (B0 ?_))))));refine k1 (k2 (k2 ?_));refine A7 (A6 (A8 Z Z) Z (A6 (M8 Z) Z (B0 ?_)));refine k1 ?_;refine B7 rfl (fun y=>?_) (fun y=>?_)
  ·cases y
  refine k5 (k1 ?_);refine A7 (A6 (F4 Z Z Z) Z (F7 (C4 TySz.out Z Z Z Z Z Z) (B0 ?_)));refine k4 (k1 ?_);exact⟨(m+1,b,B),⟨F,ab,(by dsimp only;rw[show g.length-(m+1)=k by omega];exact A)⟩,by dsimp only;omega,(Sees.of ⟨B4 rfl,B4 rfl,B4 rfl,B4 rfl,B4 rfl,B4 rfl,trivial⟩ ⟨rfl,rfl,rfl,rfl,trivial⟩)⟩
set_option maxHeartbeats 1000000
structure GF (B:Nat) (l:List File):Prop where
 len:l.length<=4
 all:∀f∈l,f.Path.length<=3/\f.Blob.length<=B
theorem GF.few{B:Nat}{l:List File}(h:GF B l)(b:B<=16777216):FewF l :=
 ⟨by have:=h.len;omega,fun f a=>by have:=(h.all f a).1;omega,fun f a=>by have:=(h.all f a).2;omega⟩
theorem GF.mono{B B':Nat}{l:List File}(h:GF B l)(b:B<=B'):GF B' l:=⟨h.len,fun f a=>⟨(h.all f a).1,by have:=(h.all f a).2;omega⟩⟩
theorem KS(i:Nat)(h:i<4):∃b:Str,names4[((i:Nat):Int).toNat]?=some b/\b.length<=3:=by
 rw[RI]
 match i,h with
 | 0,_=>exact⟨_,rfl,by decide⟩
 | 1,_=>exact⟨_,rfl,by decide⟩
 | 2,_=>exact⟨_,rfl,by decide⟩
 | 3,_=>exact⟨_,rfl,by decide⟩
theorem zR(a:Str)(b:List Int)(k:Int):(y2 a b k).length<=5*a.length:=by
 have c:=aW b k (D8 a) 0 [];have d:=s7 a;rw[V8]at c;unfold y2;simp only[RP]at c;omega
theorem DT(k:Int):(X0 k).count 10=0:=by
 have h:∀s∈lineTab,s.count 10=0:=by decide
 have d:=T4 k (n:=10) (by omega);have b:(P9 k 10).toNat<lineTab.length:=by show _<10;omega
 unfold X0;rw[RR,RG b];exact h _ (RM b)
theorem aX(a:List Int)(k:Int):∀(l:List Str) (i:Nat) (s:Str),(V0 a k i s l).count 10<=s.count 10+l.flatten.count 10+l.length
 | [],i,s=>by simp[V0]
 | x::r,i,s=>by
  have e:=aX a k r (i+1) s;have f:=aX a k r (i+1) (s++X0 (V5 a (k+40+(i:Int)))++[10]++x);have g:=aX a k r (i+1) (s++x);have b:=DT (V5 a (k+40+(i:Int)));have d:List.count (10:UInt8) [10]=1:=by decide
  simp only[List.count_append,b,d,SY,RJ]at *;unfold V0;split
  ·omega
  split
  ·omega
  ·omega
theorem zS(a:Str)(b:List Int)(k:Int):(y2 a b k).count 10<=2*a.count 10+1:=by
 have d:=aX b k (D8 a) 0 [];have e:=y6 a;rw[V8]at d;unfold y2;simp only[List.count_nil]at d;split at e<;>omega
theorem oK(k:Int):NoDig (X0 k):=by
 have h:∀s∈lineTab,∀c∈s,c.toNat<48\/57<c.toNat:=by decide
 have d:=T4 k (n:=10) (by omega);have b:(P9 k 10).toNat<lineTab.length:=by show _<10;omega
 unfold X0;rw[RR,RG b];exact h _ (RM b)
theorem HI:NoDig [10]:=fun c a=>by rw[List.mem_singleton.1 a];decide
theorem aY(b:List Int)(k:Int):∀(l:List Str) (i:Nat) (s:Str),NoDig s->(∀x∈l,NoDig x)->NoDig (V0 b k i s l)
 | [],_,_,hs,_=>hs
 | x::r,i,s,hs,hl=>by
  have d:=hl x (by simp);have c:∀y∈r,NoDig y:=fun y e=>hl y (by simp[e]);unfold V0;split
  ·exact aY b k r _ _ hs c
  split
  ·exact aY b k r _ _ (((hs.app (oK _)).app HI).app d) c
  ·exact aY b k r _ _ (hs.app d) c
theorem zT{a:Str}(h:NoDig a)(b:List Int)(k:Int):NoDig (y2 a b k) :=
 aY b k _ 0 [] (fun _ h=>by cases h) fun x e=>h.sub fun c d=>by rw[<-V8 a];exact List.mem_flatten.2 ⟨x,e,d⟩
theorem y5(d:List Int)(k b:Int):∀m,NoDig (R4 d k b m)
 | 0=>fun c e=>by simp[R4]at e
 | m+1=>by rw[s6];exact ((y5 d k b m).app (oK _)).app HI
theorem zU(d:List Int)(k n a:Int):NoDig (aV d k n a):=by
 unfold aV;simp only;split
 ·exact (y5 d k a _).sub fun c e=>List.mem_of_mem_take e
 ·exact y5 d k a _
theorem tW{α:Type}{l:List α}{i:Nat}{x:α}(h:l[i]?=some x):l.take (i+1)=l.take i++[x]:=by rw[List.take_add_one,h];rfl
theorem rS(j:List Int)(k d:Int)(I:0<=k/\k<=1000000)(C:0<=d/\d<=16):FnOk Tryz.prog 27 [O5 j,E7 k,E7 d] (fun rs=>∃l,rs=[l6 l]/\GF 64 l/\GN 64 l):=by
 refine FnOk.intro Tryz.func27 (by decide) Z Z Z Z ?_;refine k2 ?_;refine A7 (A6 (A9 Z Z) Z (B0 ?_));refine k1 (k2 ?_);refine A7 (A6 (D9 (c:=O7) (ys:=names4) (D4 Z Z Z Z (D4 Z Z Z Z (D4 Z Z Z Z (D4 Z Z Z Z H3)))) Z Z Z) Z (A6 (A9 Z Z) Z (B0 ?_)));refine k1 (k2 ?_);refine A7 (D3 (u0 8 _ V6 Z) Z (B0 ?_));refine k1 (k2 (k2 ?_));refine A7 (A6 (A9 Z Z) Z (B0 ?_));refine k1 (k3 ?_);refine E3 (X:=Nat×List File) (fun x=>([(0,E2 Int 1 G4 j),(1,C8 k),(2,C8 d),(7,E2 Str 1 O7 names4),(8,.s (.one (.buf 8 File 2 V6 x.2))),(9,C8 x.1)],[(8,.spare x.2.length 2 72)])) (fun x=>x.1<=4/\x.2.length<=x.1/\(∀f∈x.2,f.Path.length<=3/\f.Blob.length<=64)/\(x.2.map (·.Path)).Sublist (names4.take x.1)/\∀f∈x.2,NoDig f.Blob) (fun x=>4-x.1) (0,[]) ⟨Nat.zero_le _,Nat.le_refl _,(fun _ h=>by cases h),List.Sublist.refl [],(fun _ h=>by cases h)⟩ (Sees.of ⟨B4 rfl,B4 rfl,B4 rfl,B4 rfl,B4 rfl,B4 rfl,trivial⟩ ⟨rfl,trivial⟩) ?_;rintro⟨i,w⟩ ⟨H,E,g,m,v⟩;dsimp only at H E g m v ⊢;refine k2 (k2 ?_);refine A7 (A6 (A8 Z Z) Z (A6 (F3 Z Z) Z (B0 ?_)));refine k1 ?_;refine B7 rfl (fun B=>?_) (fun B=>?_);rotate_left
 ·refine k6 (k2 ?_);refine A7 (A6 (A8 Z Z) Z (A6 (A9 Z Z) Z (B0 ?_)));refine k1 (J0 ?_);exact C0 (rs:=[l6 w]) (H7 rfl rfl rfl) ⟨w,rfl,⟨by omega,g⟩,m.trans (List.take_sublist _ _),fun f q=>Nat.le_trans List.count_le_length (g f q).2,v⟩
 have y:i<4:=by have C:=A0 B;(try dsimp only at C);omega
 obtain⟨F,z,D⟩:=KS i y;have A:names4.take (i+1)=names4.take i++[F]:=tW (by rw[<-z,RI]);refine k5 (k1 (k2 (k3 (k2 ?_))));refine A7 (A6 (A8 Z Z) Z (A6 (A8 Z Z) Z (A6 (A8 Z Z) Z (A6 (D2 Z Z (by omega)) Z (C7 (v6 j (k+(i:Int)) (by omega) (by omega)) Z Z Z ?_)))));rintro _ rfl;refine A6 (eJ Z Z (by omega)) Z (A6 (S0 Z Z) Z (B0 ?_));refine k1 ?_;refine B7 rfl (fun B=>?_) (fun B=>?_)
 ·have G:=yY j (k+10+20*(i:Int)) d 4 C.1;skip;refine F1 (by kernel_rfl) (by kernel_rfl) (B6 (A8 Z Z) Z Z (B6 (A8 Z Z) Z Z (B6 (A8 Z Z) Z Z (B6 (B8 Z (.pure _ _ _ _) Z (by omega) z) Z Z (B6 (C3 Z Z) Z Z (B6 (A8 Z Z) Z Z (B6 (A8 Z Z) Z Z (B6 (D2 Z Z (by omega)) Z Z (B6 (A8 Z Z) Z Z (B6 (bS Z Z (by omega)) Z Z (B6 (D2 Z Z (by omega)) Z Z (B6 (A8 Z Z) Z Z (B6 (K4 (JD j (k+10+20*(i:Int)) d 4 (by omega) (by omega) (by omega)) Z Z) Z Z (B6 (H0 Z) Z Z (B6 (D9 (c:=V6) (ys:=[⟨F,aV j (k+10+20*(i:Int)) d 4⟩]) (D4 Z Z Z Z H3) Z Z Z) Z Z (FQ (K8 Z Z Z (.pure _ _ _ _) (by (simp only[RJ,RP];omega)) Z) Z Z (B6 (A9 Z Z) Z Z (T3 ?_))))))))))))))))));refine k4 (k1 ?_);refine A7 (A6 (A8 Z Z) Z (A6 (D2 Z Z (by omega)) Z (A6 (A9 Z Z) Z (B0 ?_))));refine k1 ?_;refine⟨(i+1,w++[⟨F,aV j (k+10+20*(i:Int)) d 4⟩]),⟨y,by rw[RK,List.length_singleton];omega,fun f q=>?_,by dsimp only;rw[A,SN];exact m.append (List.Sublist.refl _),fun f q=>?_⟩,by dsimp only;omega,(Sees.of ⟨B4 rfl,B4 rfl,B4 rfl,B4 rfl,B4 rfl,B4 rfl,trivial⟩ ⟨rfl,trivial⟩)⟩
  ·rcases RL.1 q with q | q
   ·exact g f q
   ·rw[List.mem_singleton.1 q];exact⟨D,by dsimp only;omega⟩
  ·rcases RL.1 q with q | q
   ·exact v f q
   ·rw[List.mem_singleton.1 q];exact zU _ _ _ _
 ·refine k5 (k4 (k1 ?_));refine A7 (A6 (A8 Z Z) Z (A6 (D2 Z Z (by omega)) Z (A6 (A9 Z Z) Z (B0 ?_))));refine k1 ?_;exact⟨(i+1,w),⟨y,by dsimp only;omega,g,by dsimp only;rw[A];exact m.trans (List.sublist_append_left _ _),v⟩,by dsimp only;omega,(Sees.of ⟨B4 rfl,B4 rfl,B4 rfl,B4 rfl,B4 rfl,B4 rfl,trivial⟩ ⟨rfl,trivial⟩)⟩
theorem zV(l:List File)(g:List Int)(k j:Int)(B L:Nat)(O:GF B l)(J:GN L l)(hL:32<=L)(hB:B<=3000000)(R:0<=k/\k<=1000000)(I:0<=j/\j<=16):FnOk Tryz.prog 28 [l6 l,O5 g,E7 k,E7 j] (fun rs=>∃E,rs=[l6 E]/\GF (5*B+64) E/\GN (2*L+1) E):=by
 have W:=O.len;refine FnOk.intro Tryz.func28 (by decide) Z Z Z Z ?_;refine k2 ?_;refine A7 (A6 (A9 Z Z) Z (B0 ?_));refine k1 (k2 ?_);refine A7 (D3 (u0 9 _ V6 Z) Z (B0 ?_));refine k1 (k2 ?_);refine A7 (A6 (A8 Z Z) Z (A6 (A8 Z Z) Z (A6 (D2 Z Z (by omega)) Z (C7 (v6 g (k+3) (by omega) (by omega)) Z Z Z ?_))));rintro _ rfl;refine C7 (cW (V5 g (k+3)) 4 (by omega) (by omega)) Z Z Z ?_;rintro _ rfl;refine A6 (A9 Z Z) Z (B0 ?_);obtain⟨m,Y⟩:∃m,m=P9 (V5 g (k+3)) 4:=⟨_,rfl⟩
 rw[<-Y];refine k1 (k2 (k2 ?_));refine A7 (A6 (A9 Z Z) Z (B0 ?_));refine k1 (k3 ?_);refine E3 (X:=Nat×List File) (fun x=>([(0,E2 File 2 V6 l),(1,E2 Int 1 G4 g),(2,C8 k),(3,C8 j),(9,.s (.one (.buf 9 File 2 V6 x.2))),(10,C8 m),(11,C8 x.1)],[(9,.spare x.2.length 2 72)])) (fun x=>x.1<=l.length/\x.2.length<=x.1/\(∀f∈x.2,f.Path.length<=3/\f.Blob.length<=5*B+64)/\(x.2.map (·.Path)).Sublist ((l.take x.1).map (·.Path))/\(∀f∈x.2,f.Blob.count 10<=2*L+1)/\∀f∈x.2,NoDig f.Blob) (fun x=>l.length-x.1) (0,[]) ⟨Nat.zero_le _,Nat.le_refl _,(fun _ h=>by cases h),List.Sublist.refl [],(fun _ h=>by cases h),(fun _ h=>by cases h)⟩ (Sees.of ⟨B4 rfl,B4 rfl,B4 rfl,B4 rfl,B4 rfl,B4 rfl,B4 rfl,trivial⟩ ⟨rfl,trivial⟩) ?_;rintro⟨i,A⟩ ⟨V,N,q,v,y,z⟩;dsimp only at V N q v y z ⊢;refine k2 (k2 ?_);refine A7 (A6 (A8 Z Z) Z (A6 (A8 Z Z) Z (A6 (E8 Z (.pure _ _ _ _)) Z (A6 (F3 Z Z) Z (B0 ?_)))));refine k1 ?_;refine B7 rfl (fun C=>?_) (fun C=>?_);rotate_left
 ·refine k6 (k2 (k2 ?_));refine A7 (A6 (A8 Z Z) Z (A6 (E8 Z (.buf _ _ _ _ _)) Z (A6 (J4 Z Z) Z (B0 ?_))));refine k1 ?_;refine B7 rfl (fun C=>?_) (fun C=>?_)
  ·refine k2 ?_;refine A7 (A6 (A8 Z Z) Z (A6 (A8 Z Z) Z (A6 (A8 Z Z) Z (C7 (rS g k j R I) Z Z Z ?_))));rintro _ ⟨E,rfl,K,M⟩;refine A6 (A9 Z Z) Z (B0 ?_);refine k1 (J0 (M7 ?_));exact C0 (rs:=[l6 E]) (H7 rfl rfl rfl) ⟨E,rfl,K.mono (by omega),M.mono (by omega)⟩
  ·refine k5 (k1 (k2 ?_));refine A7 (A6 (A8 Z Z) Z (A6 (A9 Z Z) Z (B0 ?_)));refine k1 (J0 ?_);exact C0 (rs:=[l6 A]) (H7 rfl rfl rfl) ⟨A,rfl,⟨by omega,q⟩,(v.trans ((List.take_sublist _ _).map _)).trans J.sub,y,z⟩
 have w:i<l.length:=by have I:=A0 C;(try dsimp only at I);omega
 obtain⟨f,H⟩:∃f,f=l[i]:=⟨_,rfl⟩
 have Q:l[i]?=some f:=by rw[H];simp[w]
 obtain⟨G,T⟩:=O.all f (by rw[H];exact RM w);have ac:=zR f.Blob g (k+7);have ab:=zS f.Blob g (k+7);have U:=J.cnt f (by rw[H];exact RM w);have F:=J.dig f (by rw[H];exact RM w);have D:(l.take (i+1)).map (·.Path)=(l.take i).map (·.Path)++[f.Path]:=by rw[tW Q,SN];rfl
 refine k5 (k1 (k2 (k3 (k2 ?_))));refine A7 (A6 (A8 Z Z) Z (A6 (A8 Z Z) Z (A6 (B8 Z (.pure _ _ _ _) Z (by omega) Q) Z (A6 (G3 Z Z) Z (D3 (I5 12 Z) Z (F7 (C4 TySz.out Z Z Z Z Z Z) (B0 ?_)))))));refine k1 (k2 (k2 ?_));refine A7 (A6 (A8 Z Z) Z (A6 (A8 Z Z) Z (A6 (J4 Z Z) Z (B0 ?_))));refine k1 ?_;refine B7 rfl (fun C=>?_) (fun C=>?_)
 ·refine k2 ?_;refine A7 (A6 (B1 Z) Z (A6 (B2 Z Z Z) Z (A6 (A8 Z Z) Z (A6 (A8 Z Z) Z (A6 (D2 Z Z (by omega)) Z (C7 (JE f.Blob g (k+7) (by omega) (by omega)) Z Z Z ?_))))));rintro _ rfl;refine A6 (B1 Z) Z (F7 (C4 TySz.out Z Z Z Z Z Z) (B0 ?_));refine k1 (k2 ?_);refine A7 (A6 (A8 Z Z) Z (A6 (A8 Z Z) Z (A6 (D2 Z Z (by omega)) Z (C7 (v6 g (k+5) (by omega) (by omega)) Z Z Z ?_))));rintro _ rfl;refine A6 (eJ Z Z (by omega)) Z (A6 (J4 Z Z) Z (B0 ?_));refine k1 ?_;refine B7 rfl (fun C=>?_) (fun C=>?_)
  ·refine k6 (k7 (k8 Z (k1 ?_)));refine A7 (A6 (A8 Z Z) Z (A6 (D2 Z Z (by omega)) Z (A6 (A9 Z Z) Z (B0 ?_))));refine k1 ?_;exact⟨(i+1,A),⟨w,by dsimp only;omega,q,by dsimp only;rw[D];exact v.trans (List.sublist_append_left _ _),y,z⟩,by dsimp only;omega,(Sees.of ⟨B4 rfl,B4 rfl,B4 rfl,B4 rfl,B4 rfl,B4 rfl,B4 rfl,trivial⟩ ⟨rfl,trivial⟩)⟩
  ·refine k5 (k1 ?_);refine A7 (A6 (A8 Z Z) Z (A6 (F4 Z Z Z) Z (A6 (D9 (c:=V6) (ys:=[⟨f.Path,y2 f.Blob g (k+7)⟩]) (D4 Z Z Z Z H3) Z Z Z) Z (D3 (K8 Z Z Z (.pure _ _ _ _) (by (simp only[RJ,RP];omega)) Z) Z (A6 (A9 Z Z) Z (B0 ?_))))));refine k4 (k1 ?_);refine A7 (A6 (A8 Z Z) Z (A6 (D2 Z Z (by omega)) Z (A6 (A9 Z Z) Z (B0 ?_))));refine k1 ?_;refine⟨(i+1,A++[⟨f.Path,y2 f.Blob g (k+7)⟩]),⟨w,by rw[RK,List.length_singleton];omega,fun x d=>?_,by dsimp only;rw[D,SN];exact v.append (List.Sublist.refl _),fun x d=>?_,fun x d=>?_⟩,by dsimp only;omega,(Sees.of ⟨B4 rfl,B4 rfl,B4 rfl,B4 rfl,B4 rfl,B4 rfl,B4 rfl,trivial⟩ ⟨rfl,trivial⟩)⟩
   ·rcases RL.1 d with d | d
    ·exact q x d
    ·rw[List.mem_singleton.1 d];exact⟨G,by dsimp only;omega⟩
   ·rcases RL.1 d with d | d
    ·exact y x d
    ·rw[List.mem_singleton.1 d];dsimp only;omega
   ·rcases RL.1 d with d | d
    ·exact z x d
    ·rw[List.mem_singleton.1 d];exact zT F g (k+7)
 ·refine k5 (k1 ?_);refine A7 (A6 (A8 Z Z) Z (A6 (F4 Z Z Z) Z (A6 (D9 (c:=V6) (ys:=[f]) (D4 Z Z Z Z H3) Z Z Z) Z (D3 (K8 Z Z Z (.pure _ _ _ _) (by (simp only[RJ,RP];omega)) Z) Z (A6 (A9 Z Z) Z (B0 ?_))))));refine k4 (k1 ?_);refine A7 (A6 (A8 Z Z) Z (A6 (D2 Z Z (by omega)) Z (A6 (A9 Z Z) Z (B0 ?_))));refine k1 ?_;refine⟨(i+1,A++[f]),⟨w,by rw[RK,List.length_singleton];omega,fun x d=>?_,by dsimp only;rw[D,SN];exact v.append (List.Sublist.refl _),fun x d=>?_,fun x d=>?_⟩,by dsimp only;omega,(Sees.of ⟨B4 rfl,B4 rfl,B4 rfl,B4 rfl,B4 rfl,B4 rfl,B4 rfl,trivial⟩ ⟨rfl,trivial⟩)⟩
  ·rcases RL.1 d with d | d
   ·exact q x d
   ·rw[List.mem_singleton.1 d];exact⟨G,by omega⟩
  ·rcases RL.1 d with d | d
   ·exact y x d
   ·rw[List.mem_singleton.1 d];omega
  ·rcases RL.1 d with d | d
   ·exact z x d
   ·rw[List.mem_singleton.1 d];exact F
structure GG (B:Nat) (g:Graph):Prop where
 len:g.length<=16
 pars:∀c∈g,c.Parents.length<=3/\∀p∈c.Parents,0<=p/\p<(g.length:Int)
 files:∀c∈g,GF B c.Files
theorem GG.few{B:Nat}{g:Graph}(h:GG B g)(b:B<=16777216):FewT g :=
 ⟨⟨by have:=h.len;omega,fun c a=>by have:=(h.pars c a).1;omega⟩,fun c a=>(h.files c a).few b⟩
theorem GG.short{B:Nat}{g:Graph}(h:GG B g):Short g:=fun c=>by
 unfold F5;by_cases a:c<g.length
 ·rw[RG a];have:=(h.files _ (RM a)).len;show g[c].Files.length<=6;omega
 ·rw[SC (by omega)];simp
structure GU (L:Nat) (g:Graph):Prop where
 up:∀c p:Nat,(p:Int)∈D5 g c->p<c
 nice:∀c∈g,c.Parents.Nodup/\0<=c.Date/\c.Date<=5
 tree:∀c∈g,GN L c.Files
theorem GU.valid{B L:Nat}{g:Graph}(h:GG B g)(p:B<=1048576)(d:L<=2111)(k:OneWay g)(i:∀c∈g,c.Parents.Nodup/\0<=c.Date/\c.Date<=5)(j:∀c∈g,GN L c.Files):GV g where
 len:=h.len
 pars:=fun c b=>⟨(h.pars c b).1,(h.pars c b).2,i c b⟩
 way:=k
 files:=fun c b=>⟨(j c b).mono d,fun f e=>by have:=((h.files c b).all f e).2;omega⟩
theorem zW{g:Graph}{k:Nat}{x:Commit}(j:Nat){p:Int}(h:p∈D5 (g.set k x) j):(j=k/\p∈x.Parents)\/p∈D5 g j:=by
 unfold D5 at h ⊢;rw[TI]at h;split at h
 ·rename_i e;split at h
  ·exact .inl ⟨e.symm,h⟩
  ·cases h
 ·exact .inr h
theorem zX(n:Int){l:List Int}(h:l.Nodup):(l.map fun q=>n-1-q).Nodup:=by
 rw[List.nodup_iff_pairwise_ne,List.pairwise_map];exact h.imp fun {a b} c e=>c (by omega)
theorem zY(g:Graph)(U:List Int)(B L:Nat)(S:GG B g)(P:GU L g)(hB:B<=1048576)(hL:L<=2111):FnOk Tryz.prog 29 [G7 g,O5 U] (fun rs=>∃W,rs=[G7 W]/\GG B W/\GV W):=by
 have ag:=S.len;refine FnOk.intro Tryz.func29 (by decide) Z Z Z Z ?_;refine k2 ?_;refine A7 (A6 (A9 Z Z) Z (B0 ?_));refine k1 (k2 (k2 ?_));refine A7 (A6 (A8 Z Z) Z (C7 (v6 U 3 (by omega) (by omega)) Z Z Z ?_));rintro _ rfl;refine A6 (eJ Z Z (by omega)) Z (A6 (J4 Z Z) Z (B0 ?_));refine k1 ?_;refine B7 rfl (fun J=>?_) (fun J=>?_)
 ·refine k2 ?_;refine A7 (A6 (A8 Z Z) Z (A6 (A9 Z Z) Z (B0 ?_)));refine k1 (J0 (M7 ?_));exact C0 (rs:=[G7 g]) (H7 rfl rfl rfl) ⟨g,rfl,S,GU.valid S hB hL (.inl P.up) P.nice P.tree⟩
 refine k5 (k1 (k2 ?_));refine A7 (A6 (A8 Z Z) Z (A6 (E8 Z (.pure _ _ _ _)) Z (A6 (A9 Z Z) Z (B0 ?_))));refine k1 (k2 ?_);refine A7 (A6 (A8 Z Z) Z (D3 (gT 760 Commit I0 ⟨[],0,[]⟩ Z Z (by omega) (by omega) (fun _=>by first | exact⟨⟨rfl,rfl⟩,trivial⟩ | exact⟨J2 _ _ _,trivial⟩ | exact⟨J2 _ _ _,⟨rfl,rfl⟩,J2 _ _ _,trivial⟩ | exact⟨⟨rfl,rfl⟩,⟨rfl,rfl⟩,trivial⟩) (by first | rfl | (simp[H2,L7,Ob.free,SV.free,S1.free,TC.free]<;>rfl))) Z ?_));refine A6 (A9 Z Z) Z (B0 ?_);rw[RI];refine k1 (k2 (k2 ?_));refine A7 (A6 (A9 Z Z) Z (B0 ?_));refine k1 (k3 ?_)
 refine E3 (X:=Nat×List Commit) (fun x=>([(0,E2 Commit 3 I0 g),(5,C8 g.length),(6,.s (.one (.mut 760))),(7,C8 x.1)],[(760,.arr Commit 3 I0 x.2)])) (fun x=>x.1<=g.length/\x.2.length=g.length/\(∀y∈x.2,y.Parents.length<=3/\∀p∈y.Parents,0<=p/\p<(g.length:Int))/\(∀y∈x.2,GF B y.Files)/\(∀y∈x.2,(y.Parents.Nodup/\0<=y.Date/\y.Date<=5)/\GN L y.Files)/\∀j p:Nat,(p:Int)∈D5 x.2 j->j<p) (fun x=>g.length-x.1) (0,List.replicate g.length ⟨[],0,[]⟩) ⟨Nat.zero_le _,SL,fun y w=>by rw[(List.mem_replicate.1 w).2];exact⟨by simp,fun p hp=>by cases hp⟩,fun y w=>by rw[(List.mem_replicate.1 w).2];exact⟨by simp,fun f R=>by cases R⟩,fun y w=>by rw[(List.mem_replicate.1 w).2];exact⟨⟨List.nodup_nil,by decide,by decide⟩,List.nil_sublist _,(fun f R=>by cases R),fun f R=>by cases R⟩,fun j p h=>by
  unfold D5 at h;rw[List.getElem?_replicate]at h
  split at h<;>cases h⟩ (Sees.of ⟨B4 rfl,B4 rfl,B4 rfl,B4 rfl,trivial⟩ ⟨rfl,trivial⟩) ?_
 rintro⟨c,o⟩ ⟨hc,F,H,E,G,M⟩;dsimp only at hc F H E G M ⊢;refine k2 (k2 ?_);refine A7 (A6 (A8 Z Z) Z (A6 (A8 Z Z) Z (A6 (F3 Z Z) Z (B0 ?_))));refine k1 ?_;refine B7 rfl (fun J=>?_) (fun J=>?_);rotate_left
 ·refine k6 (k2 ?_);refine I9 (Sees.freeze (k:=760) Z) ?_;refine A7 (A6 (A8 Z Z) Z (A6 (A9 Z Z) Z (B0 ?_)));refine k1 (J0 ?_);exact C0 (rs:=[G7 o]) (H7 rfl rfl rfl) ⟨o,rfl,⟨by omega,by rw[F];exact H,E⟩,GU.valid (B:=B) ⟨by omega,by rw[F];exact H,E⟩ hB hL (.inr M) (fun y w=>(G y w).1) fun y w=>(G y w).2⟩
 have D:c<g.length:=by have z:=A0 J;(try dsimp only at z);omega
 obtain⟨d,K⟩:∃d,d=g[c]:=⟨_,rfl⟩
 have hv:g[c]?=some d:=by rw[K];simp[D]
 have V:d∈g:=by rw[K];exact RM D
 obtain⟨ah,hpr⟩:=S.pars d V;have Y:=S.files d V;have Q:=P.nice d V;have ab:=P.tree d V;have ac:∀q∈d.Parents,q<(c:Int):=fun q C=>by
  have z:=P.up c q.toNat (by rw[j8 D,<-K,Int.toNat_of_nonneg (hpr q C).1];exact C)
  have:=(hpr q C).1;omega
 refine k5 (k1 (k2 (k3 (k2 ?_))));refine A7 (A6 (A8 Z Z) Z (A6 (A8 Z Z) Z (A6 (B8 Z (.pure _ _ _ _) Z (by omega) hv) Z (A6 (G3 Z Z) Z (D3 (I5 8 Z) Z (F7 (C4 TySz.out Z Z Z Z Z Z) (B0 ?_)))))));refine k1 (k2 ?_);refine A7 (A6 (B1 Z) Z (F7 (C4 TySz.out Z Z Z Z Z Z) (B0 ?_)));refine k1 (k2 (k2 ?_));refine I9 (QR 753 Int 1 G4 3 (kb:=8) (o:=0) Z Z Z) ?_;refine A7 (A6 (A9 Z Z) Z (B0 ?_));refine k1 (k3 ?_);refine E3 (X:=Nat×List Int) (fun x=>([(0,E2 Commit 3 I0 g),(5,C8 g.length),(6,.s (.one (.mut 760))),(7,C8 c),(8,.s (.one (.ref 8 0))),(9,C8 x.1)],[(8,.box [.buf 753 Int 1 G4 x.2,.p (.v (.int .i64 d.Date)),.p (.list File 2 V6 d.Files)]),(753,.spare x.2.length 1 3),(760,.arr Commit 3 I0 o)])) (fun x=>x.1<=d.Parents.length/\x.2=(d.Parents.take x.1).map fun q=>(g.length:Int)-1-q) (fun x=>d.Parents.length-x.1) (0,[]) ⟨Nat.zero_le _,rfl⟩ (Sees.of ⟨B4 rfl,B4 rfl,B4 rfl,B4 rfl,B4 rfl,B4 rfl,trivial⟩ ⟨rfl,rfl,rfl,trivial⟩) ?_;rintro⟨p,ps⟩ ⟨hp,I⟩;dsimp only at hp I ⊢;have ai:ps.length=p:=by rw[I,SM,RV];omega
 refine k2 (k2 ?_);refine A7 (A6 (A8 Z Z) Z (A6 (A8 Z Z) Z (A6 (A8 Z Z) Z (A6 (B8 Z (.pure _ _ _ _) Z (by omega) hv) Z (A6 (F6 Z) Z (A6 (C3 Z Z) Z (A6 (E8 Z (.pure _ _ _ _)) Z (A6 (F3 Z Z) Z (B0 ?_)))))))));refine k1 ?_;refine B7 rfl (fun J=>?_) (fun J=>?_)
 ·have A:p<d.Parents.length:=by have z:=A0 J;(try dsimp only at z);omega
  obtain⟨q,C⟩:∃q,q=d.Parents[p]:=⟨_,rfl⟩
  have T:d.Parents[p]?=some q:=by rw[C];simp[A]
  have aj:=hpr q (by rw[C];exact RM A);refine k5 (k1 (k2 (k3 ?_)));refine F1 (by kernel_rfl) (by kernel_rfl) (B6 (B1 Z) Z Z (B6 (B2 Z Z Z) Z Z (B6 (A8 Z Z) Z Z (B6 (P2 Z Z (by omega)) Z Z (B6 (A8 Z Z) Z Z (B6 (A8 Z Z) Z Z (B6 (B8 Z (.pure _ _ _ _) Z (by omega) hv) Z Z (B6 (F6 Z) Z Z (B6 (C3 Z Z) Z Z (B6 (A8 Z Z) Z Z (B6 (B8 Z (.pure _ _ _ _) Z (by omega) T) Z Z (B6 (C3 Z Z) Z Z (B6 (P2 Z Z (by omega)) Z Z (B6 (D9 (c:=G4) (ys:=[(g.length:Int)-1-q]) (D4 Z Z Z Z H3) Z Z Z) Z Z (FQ (K8 Z Z Z (.pure _ _ _ _) (by (simp only[RJ,RP];omega)) Z) Z Z (B6 (B1 Z) Z Z (FP (C4 TySz.out Z Z Z Z Z Z) Z (T3 ?_))))))))))))))))));refine k4 (k1 ?_);refine A7 (A6 (A8 Z Z) Z (A6 (D2 Z Z (by omega)) Z (A6 (A9 Z Z) Z (B0 ?_))));refine k1 ?_;refine⟨(p+1,ps++[(g.length:Int)-1-q]),⟨A,by dsimp only;rw[tW T,SN,<-I];rfl⟩,by dsimp only;omega,(Sees.of ⟨B4 rfl,B4 rfl,B4 rfl,B4 rfl,B4 rfl,B4 rfl,trivial⟩ ⟨rfl,rfl,rfl,trivial⟩)⟩
 have af:¬(p:Int)<d.Parents.length:=A1 J;have O:ps=d.Parents.map fun q=>(g.length:Int)-1-q:=by rw[I,SE (by omega)]
 have ad:∀x∈ps,0<=x/\x<(g.length:Int):=fun x hx=>by
  rw[O]at hx;obtain⟨q,C,rfl⟩:=SF.1 hx;have:=hpr q C;omega
 have hi:0<=(g.length:Int)-1-c/\(g.length:Int)-1-c<o.length:=by omega
 have ae:o[((g.length:Int)-1-c).toNat]?=some o[((g.length:Int)-1-c).toNat]:=RG (by omega);refine k6 (k7 (k7 (k8 Z (k1 ?_))));refine A7 (A6 (A8 Z Z) Z (A6 (A8 Z Z) Z (A6 (P2 Z Z (by omega)) Z (A6 (A8 Z Z) Z (A6 (P2 Z Z (by omega)) Z (A6 (F4 Z Z Z) Z (A6 (J1 Z Z Z (by omega) (by omega)) Z (F7 (gN (y:=⟨ps,d.Date,d.Files⟩) TySz.out Z Z ae Z Z Z Z (fun _ _ us h=>by first | exact cM h | (match us,h with | [_,_,_],h=>exact⟨h.1.2,h.2.1,h.2.2.1,trivial⟩)) (by intro j z h2;rcases j with _ | _ | _ | j<;>first | rfl | omega)) ?_))))))));refine B0 ?_;refine k4 (k1 ?_);refine A7 (A6 (A8 Z Z) Z (A6 (D2 Z Z (by omega)) Z (A6 (A9 Z Z) Z (B0 ?_))));refine k1 ?_;refine⟨(c+1,o.set ((g.length:Int)-1-c).toNat ⟨ps,d.Date,d.Files⟩),⟨D,by dsimp only;rw[SU];exact F,fun y w=>?_,fun y w=>?_,fun y w=>?_,fun j p hj=>?_⟩,by dsimp only;omega,(Sees.of ⟨B4 rfl,B4 rfl,B4 rfl,B4 rfl,trivial⟩ ⟨rfl,trivial⟩)⟩
 ·rcases List.mem_or_eq_of_mem_set w with w | rfl
  ·exact H y w
  ·exact⟨by dsimp only;omega,ad⟩
 ·rcases List.mem_or_eq_of_mem_set w with w | rfl
  ·exact E y w
  ·exact Y
 ·rcases List.mem_or_eq_of_mem_set w with w | rfl
  ·exact G y w
  ·exact⟨⟨by rw[O];exact zX _ Q.1,Q.2⟩,ab⟩
 ·rcases zW j hj with ⟨e,z⟩ | z
  ·dsimp only at z;rw[O]at z;obtain⟨q,C,e2⟩:=SF.1 z;have:=ac q C;omega
  ·exact M j p z
set_option maxHeartbeats 2000000
def oL:Nat->Nat
 | 0=>0
 | c+1=>5*oL c+64
def mA:Nat->Nat
 | 0=>32
 | c+1=>2*mA c+1
theorem JO(c:Nat)(h:c<=6):(32<=mA c/\oL c<=250000)/\mA c<=2111:=by
 match c,h with
 | 0,_=>decide
 | 1,_=>decide
 | 2,_=>decide
 | 3,_=>decide
 | 4,_=>decide
 | 5,_=>decide
 | 6,_=>decide
theorem GG.mono{B B':Nat}{g:Graph}(h:GG B g)(a:B<=B'):GG B' g:=⟨h.len,h.pars,fun c b=>(h.files c b).mono a⟩
theorem DU(w:List Int)(n z:Int)(hn:0<=n/\n<=6)(hl:0<=z/\z<=16):FnOk Tryz.prog 7 [O5 w,E7 n,E7 z] (fun rs=>∃g,rs=[G7 g]/\GG 250000 g/\GV g):=by
 have au:=T4 (V5 w 0) (n:=n+1) (by omega);obtain⟨m,hm⟩:∃m:Nat,P9 (V5 w 0) (n+1)=(m:Int):=⟨(P9 (V5 w 0) (n+1)).toNat,by omega⟩
 have ar:m<=6:=by omega
 refine FnOk.intro Tryz.func7 (by decide) Z Z Z Z ?_;refine k2 ?_;refine A7 (A6 (A9 Z Z) Z (B0 ?_));refine k1 (k2 ?_);refine A7 (A6 (A8 Z Z) Z (C7 (v6 w 0 (by omega) (by omega)) Z Z Z ?_));rintro _ rfl;refine A6 (A8 Z Z) Z (A6 (D2 Z Z (by omega)) Z (C7 (cW (V5 w 0) (n+1) (by omega) (by omega)) Z Z Z ?_));rintro _ rfl;refine A6 (A9 Z Z) Z (B0 ?_);rw[hm];refine k1 (k2 ?_);refine A7 (D3 (yM 7 (c:=I0) (ys:=([]:List Commit)) H3 Z Z Z (by first | rfl | (simp[H2,L7,Ob.free,SV.free,S1.free,TC.free]<;>rfl))) Z ?_);refine A6 (A9 Z Z) Z (B0 ?_);refine k1 (k2 (k2 ?_));refine A7 (A6 (A9 Z Z) Z (B0 ?_));refine k1 (k3 ?_);refine E3 (X:=Nat×List Commit) (fun x=>([(0,E2 Int 1 G4 w),(1,C8 m),(2,C8 z),(7,.s (.one (.buf 7 Commit 3 I0 x.2))),(8,C8 x.1)],[(7,.spare x.2.length 3 32)])) (fun x=>x.1<=m/\x.2.length=x.1/\(∀y∈x.2,y.Parents.length<=3/\∀p∈y.Parents,0<=p/\p<(x.1:Int))/\(∀y∈x.2,GF (oL x.1) y.Files)/\GU (mA x.1) x.2) (fun x=>m-x.1) (0,[]) ⟨Nat.zero_le _,rfl,(fun _ h=>by cases h),(fun _ h=>by cases h),(fun _ _ h=>by cases h),(fun _ h=>by cases h),(fun _ h=>by cases h)⟩ (Sees.of ⟨B4 rfl,B4 rfl,B4 rfl,B4 rfl,B4 rfl,trivial⟩ ⟨rfl,trivial⟩) ?_;rintro⟨c,E⟩ ⟨hc,P,I,H,D⟩;dsimp only at hc P I H D ⊢;obtain⟨⟨ac,aq⟩,ad⟩:=JO c (by omega);refine k2 (k2 ?_);refine A7 (A6 (A8 Z Z) Z (A6 (A8 Z Z) Z (A6 (F3 Z Z) Z (B0 ?_))));refine k1 ?_;refine B7 rfl (fun B=>?_) (fun B=>?_);rotate_left
 ·refine k6 (k2 ?_);refine A7 (A6 (A8 Z Z) Z (A6 (A8 Z Z) Z (C7 (zY E w (oL c) (mA c) ⟨by omega,by rw[P];exact I,H⟩ D (by omega) ad) Z Z Z ?_)));rintro _ ⟨g',rfl,ak,ao⟩;refine A6 (A9 Z Z) Z (B0 ?_);refine k1 (J0 ?_);exact C0 (rs:=[G7 g']) (H7 rfl rfl rfl) ⟨g',rfl,GG.mono ak (by omega),ao⟩
 have al:c<m:=by have J:=A0 B;(try dsimp only at J);omega
 refine k5 (k1 (k2 (k3 (k2 ?_))));refine A7 (A6 (A8 Z Z) Z (A6 (A8 Z Z) Z (A6 (D2 Z Z (by omega)) Z (C7 (v6 w (1000+(c:Int)) (by omega) (by omega)) Z Z Z ?_))));rintro _ rfl;refine C7 (cW (V5 w (1000+(c:Int))) 5 (by omega) (by omega)) Z Z Z ?_;rintro _ rfl;refine A6 (H0 Z) Z (D3 (I5 9 Z) Z (F7 (C4 TySz.out Z Z Z Z Z Z) (B0 ?_)));have ag:=T4 (V5 w (1000+(c:Int))) (n:=5) (by omega);obtain⟨d,hd⟩:∃d,d=P9 (V5 w (1000+(c:Int))) 5:=⟨_,rfl⟩
 rw[<-hd]at ag ⊢;refine k1 (k2 (k2 ?_));refine I9 (QR 753 Int 1 G4 3 (kb:=9) (o:=0) Z Z Z) ?_;refine A7 (A6 (A9 Z Z) Z (B0 ?_));refine k1 (k3 ?_);refine E3 (X:=Nat×List Int) (fun x=>([(0,E2 Int 1 G4 w),(1,C8 m),(2,C8 z),(7,.s (.one (.buf 7 Commit 3 I0 E))),(8,C8 c),(9,.s (.one (.ref 9 0))),(10,C8 x.1)],[(7,.spare E.length 3 32),(9,.box [.buf 753 Int 1 G4 x.2,.p (.v (.int .i64 d)),.p (.v (.slice none 0 0))]),(753,.spare x.2.length 1 3)])) (fun x=>x.1<=c/\x.2.length<=3/\(∀q∈x.2,0<=q/\q<(x.1:Int))/\x.2.Nodup) (fun x=>c-x.1) (0,[]) ⟨Nat.zero_le _,by simp,(fun _ h=>by cases h),List.nodup_nil⟩ (Sees.of ⟨B4 rfl,B4 rfl,B4 rfl,B4 rfl,B4 rfl,B4 rfl,B4 rfl,trivial⟩ ⟨rfl,rfl,rfl,trivial⟩) ?_;rintro⟨p,ps⟩ ⟨hp,Q,F,hpn⟩;dsimp only at hp Q F hpn ⊢;refine k2 (k2 ?_);refine A7 (A6 (A8 Z Z) Z (A6 (A8 Z Z) Z (A6 (F3 Z Z) Z (B0 ?_))));refine k1 ?_;refine B7 rfl (fun B=>?_) (fun B=>?_)
 ·have L:p<c:=by have J:=A0 B;(try dsimp only at J);omega
  refine k5 (k1 (k2 (k3 (k2 ?_))));refine A7 (A6 (A8 Z Z) Z (A6 (A8 Z Z) Z (A6 (bS Z Z (by omega)) Z (A6 (D2 Z Z (by omega)) Z (A6 (A8 Z Z) Z (A6 (D2 Z Z (by omega)) Z (C7 (v6 w (1100+40*(c:Int)+(p:Int)) (by omega) (by omega)) Z Z Z ?_)))))));rintro _ rfl;refine A6 (eJ Z Z (by omega)) Z (A6 (J4 Z Z) Z (A6 (A8 Z Z) Z (B3 Z Z Z Z (fun k=>by rw[k];exact B1 Z) ?_)));refine B3 Z Z Z Z (fun k=>by rw[k];exact B2 Z Z Z) ?_;refine B3 Z Z Z Z (fun k=>by rw[k];exact E8 Z (.buf _ _ _ _ _)) ?_;refine B3 Z Z Z Z (fun k=>by rw[k];exact F3 Z Z) ?_;refine A6 (B9 Z (fun h=>by first | rfl | (rw[h];rfl)) (fun h=>by first | rfl | (rw[h];rfl))) Z ?_;refine B0 ?_;refine k1 ?_;refine B7 rfl (fun B=>?_) (fun B=>?_)
  ·have h2:=(A0 (and_pick.symm.trans B)).2;skip;refine A7 (A6 (B1 Z) Z (A6 (B2 Z Z Z) Z (A6 (A8 Z Z) Z (A6 (D9 (c:=G4) (ys:=[(p:Int)]) (D4 Z Z Z Z H3) Z Z Z) Z (D3 (K8 Z Z Z (.pure _ _ _ _) (by (simp only[RJ,RP];omega)) Z) Z (A6 (B1 Z) Z (F7 (C4 TySz.out Z Z Z Z Z Z) (B0 ?_))))))));refine k4 (k1 ?_);refine A7 (A6 (A8 Z Z) Z (A6 (D2 Z Z (by omega)) Z (A6 (A9 Z Z) Z (B0 ?_))));refine k1 ?_;refine⟨(p+1,ps++[(p:Int)]),⟨L,by rw[RK,List.length_singleton];omega,fun x T=>?_,?_⟩,by dsimp only;omega,(Sees.of ⟨B4 rfl,B4 rfl,B4 rfl,B4 rfl,B4 rfl,B4 rfl,B4 rfl,trivial⟩ ⟨rfl,rfl,rfl,trivial⟩)⟩
   ·rcases RL.1 T with T | T
    ·have:=F x T;dsimp only;omega
    ·rw[List.mem_singleton.1 T];dsimp only;omega
   ·dsimp only;refine List.nodup_append.2 ⟨hpn,by simp,fun a ha b hb e=>?_⟩;have:=F a ha;rw[e,List.mem_singleton.1 hb]at this;omega
  ·refine k5 (k4 (k1 ?_));refine A7 (A6 (A8 Z Z) Z (A6 (D2 Z Z (by omega)) Z (A6 (A9 Z Z) Z (B0 ?_))));refine k1 ?_;exact⟨(p+1,ps),⟨L,Q,fun x T=>by have:=F x T;dsimp only;omega,hpn⟩,by dsimp only;omega,(Sees.of ⟨B4 rfl,B4 rfl,B4 rfl,B4 rfl,B4 rfl,B4 rfl,B4 rfl,trivial⟩ ⟨rfl,rfl,rfl,trivial⟩)⟩
 refine k6 (k2 (k2 ?_));refine A7 (A6 (B1 Z) Z (A6 (B2 Z Z Z) Z (A6 (E8 Z (.buf _ _ _ _ _)) Z (A6 (J4 Z Z) Z (A6 (A8 Z Z) Z (B3 Z Z Z Z (fun k=>by rw[k];exact A8 Z Z) ?_))))));refine B3 Z Z Z Z (fun k=>by rw[k];exact S0 Z Z) ?_;refine A6 (B9 Z (fun h=>by first | rfl | (rw[h];rfl)) (fun h=>by first | rfl | (rw[h];rfl))) Z ?_;refine A6 (A8 Z Z) Z (B3 Z Z Z Z (fun k=>by rw[k];exact A8 Z Z) ?_);refine B3 Z Z Z Z (fun k=>by rw[k];exact A8 Z Z) ?_;refine B3 Z Z Z Z (fun k=>by have C:=k;(try simp at C);rw[k];exact D2 Z Z (by omega)) ?_;refine B3 Z Z Z Z (fun k=>by have C:=k;(try simp at C);rw[k];exact K4 (v6 w (1500+(c:Int)) (by omega) (by omega)) Z Z) ?_;refine B3 Z Z Z Z (fun k=>by have C:=k;(try simp at C);rw[k];exact eJ Z Z (by omega)) ?_;refine B3 Z Z Z Z (fun k=>by rw[k];exact S0 Z Z) ?_;refine A6 (B9 Z (fun h=>by first | rfl | (rw[h];rfl)) (fun h=>by first | rfl | (rw[h];rfl))) Z ?_;refine B0 ?_;refine k1 ?_;refine nY (X:=List Int) (fun G=>([(0,E2 Int 1 G4 w),(1,C8 m),(2,C8 z),(7,.s (.one (.buf 7 Commit 3 I0 E))),(8,C8 c),(9,.s (.one (.ref 9 0)))],[(7,.spare E.length 3 32),(9,.box [.p (.list Int 1 G4 G),.p (.v (.int .i64 d)),.p (.v (.slice none 0 0))])])) (fun G=>G.length<=3/\(∀q∈G,0<=q/\q<(c:Int))/\G.Nodup) ?_ ?_
 ·refine B7 rfl (fun B=>?_) (fun B=>?_)
  ·rw[rW,rW,RH,RH]at B;have h2:=A0 B.1.2;skip;refine A7 (A6 (A8 Z Z) Z (A6 (P2 Z Z (by omega)) Z (A6 (D9 (c:=G4) (ys:=[(c:Int)-1]) (D4 Z Z Z Z H3) Z Z Z) Z (A6 (B1 Z) Z (F7 (C4 TySz.out Z Z Z Z Z Z) (B0 ?_))))));refine k1 ?_;exact⟨[(c:Int)-1],⟨by simp,fun q C=>by rw[List.mem_singleton.1 C];omega,by simp⟩,Sees.trans (QW 9 0 rfl rfl rfl) (Sees.of ⟨B4 rfl,B4 rfl,B4 rfl,B4 rfl,B4 rfl,B4 rfl,trivial⟩ ⟨rfl,rfl,trivial⟩)⟩
  ·refine k5 (k1 ?_);exact⟨ps,⟨Q,fun q C=>by have:=F q C;omega,hpn⟩,Sees.trans (QW 9 0 rfl rfl rfl) (Sees.of ⟨B4 rfl,B4 rfl,B4 rfl,B4 rfl,B4 rfl,B4 rfl,trivial⟩ ⟨rfl,rfl,trivial⟩)⟩
 rintro G ⟨am,S,an⟩;dsimp only;refine k2 ?_;refine A7 (A6 (A8 Z Z) Z (A6 (A8 Z Z) Z (A6 (bS Z Z (by omega)) Z (A6 (D2 Z Z (by omega)) Z (A6 (A8 Z Z) Z (C7 (rS w (2000+200*(c:Int)) z (by omega) hl) Z Z Z ?_))))));rintro _ ⟨fl,rfl,ah,ai⟩;refine A6 (B1 Z) Z (F7 (C4 TySz.out Z Z Z Z Z Z) (B0 ?_));refine k1 (k2 (k2 ?_));refine A7 (A6 (B1 Z) Z (A6 (B2 Z Z Z) Z (A6 (E8 Z (.pure _ _ _ _)) Z (A6 (S0 Z Z) Z (A6 (A8 Z Z) Z (B3 Z Z Z Z (fun k=>by rw[k];exact A8 Z Z) ?_))))));refine B3 Z Z Z Z (fun k=>by rw[k];exact A8 Z Z) ?_;refine B3 Z Z Z Z (fun k=>by have C:=k;(try simp at C);rw[k];exact D2 Z Z (by omega)) ?_;refine B3 Z Z Z Z (fun k=>by have C:=k;(try simp at C);rw[k];exact K4 (v6 w (1600+(c:Int)) (by omega) (by omega)) Z Z) ?_;refine B3 Z Z Z Z (fun k=>by have C:=k;(try simp at C);rw[k];exact eJ Z Z (by omega)) ?_;refine B3 Z Z Z Z (fun k=>by rw[k];exact S0 Z Z) ?_;refine A6 (B9 Z (fun h=>by first | rfl | (rw[h];rfl)) (fun h=>by first | rfl | (rw[h];rfl))) Z ?_;refine B0 ?_;refine k1 ?_;refine nY (X:=List File) (fun M=>([(0,E2 Int 1 G4 w),(1,C8 m),(2,C8 z),(7,.s (.one (.buf 7 Commit 3 I0 E))),(8,C8 c),(9,.s (.one (.ref 9 0)))],[(7,.spare E.length 3 32),(9,.box [.p (.list Int 1 G4 G),.p (.v (.int .i64 d)),.p (.list File 2 V6 M)])])) (fun M=>GF (oL (c+1)) M/\GN (mA (c+1)) M) ?_ ?_
 ·refine B7 rfl (fun B=>?_) (fun B=>?_)
  ·rw[rW,RH]at B;have h2:=A0 B.1;obtain⟨q,qr,rfl⟩:∃q qr,G=q::qr:=by
    cases G with
    | nil=>simp at h2
    | cons q qr=>exact⟨q,qr,rfl⟩
   have av:=S q (by simp);have R:q.toNat<E.length:=by omega
   obtain⟨U,O⟩:∃U,U=E[q.toNat]:=⟨_,rfl⟩
   have ap:E[q.toNat]?=some U:=by rw[O];simp[R]
   have ae:=H U (by rw[O];exact RM R);have af:=D.tree U (by rw[O];exact RM R);skip;refine A7 (A6 (A8 Z Z) Z (A6 (B1 Z) Z (A6 (B2 Z Z Z) Z (A6 (B8 Z (.pure _ _ _ _) Z (by omega) (show (q::qr)[Int.toNat 0]?=some q from Z)) Z (A6 (C3 Z Z) Z (A6 (B8 Z (.buf _ _ _ _ _) Z (by omega) ap) Z (A6 (F6 Z) Z (A6 (C3 Z Z) Z (A6 (A8 Z Z) Z (A6 (A8 Z Z) Z (A6 (bS Z Z (by omega)) Z (A6 (D2 Z Z (by omega)) Z (A6 (A8 Z Z) Z (C7 (zV U.Files w (2000+200*(c:Int)) z (oL c) (mA c) ae af ac (by omega) (by omega) hl) Z Z Z ?_))))))))))))));rintro _ ⟨ab,rfl,V,W⟩;refine A6 (B1 Z) Z (F7 (C4 TySz.out Z Z Z Z Z Z) (B0 ?_));refine k1 ?_;exact⟨ab,⟨V,W⟩,(Sees.of ⟨B4 rfl,B4 rfl,B4 rfl,B4 rfl,B4 rfl,B4 rfl,trivial⟩ ⟨rfl,rfl,trivial⟩)⟩
  ·refine k5 (k1 ?_);exact⟨fl,⟨ah.mono (show 64<=oL (c+1) by rw[oL];omega),ai.mono (show 64<=mA (c+1) by rw[mA];omega)⟩,(Sees.of ⟨B4 rfl,B4 rfl,B4 rfl,B4 rfl,B4 rfl,B4 rfl,trivial⟩ ⟨rfl,rfl,trivial⟩)⟩
 rintro M ⟨aj,Y⟩;dsimp only;skip;refine A7 (A6 (A8 Z Z) Z (A6 (F4 Z Z Z) Z (A6 (D9 (c:=I0) (ys:=[⟨G,d,M⟩]) (D4 Z Z Z Z H3) Z Z Z) Z (D3 (K8 Z Z Z (.pure _ _ _ _) (by (simp only[RJ,RP];omega)) Z) Z (A6 (A9 Z Z) Z (B0 ?_))))));refine k4 (k1 ?_);refine A7 (A6 (A8 Z Z) Z (A6 (D2 Z Z (by omega)) Z (A6 (A9 Z Z) Z (B0 ?_))));refine k1 ?_;refine⟨(c+1,E++[⟨G,d,M⟩]),⟨al,by dsimp only;rw[RK,List.length_singleton,P],fun y A=>?_,fun y A=>?_,fun j p K=>?_,fun y A=>?_,fun y A=>?_⟩,by dsimp only;omega,(Sees.of ⟨B4 rfl,B4 rfl,B4 rfl,B4 rfl,B4 rfl,trivial⟩ ⟨rfl,trivial⟩)⟩
 ·rcases RL.1 A with A | A
  ·exact⟨(I y A).1,fun p hp=>by have:=(I y A).2 p hp;dsimp only;omega⟩
  ·rw[List.mem_singleton.1 A];exact⟨am,fun p hp=>by have:=S p hp;dsimp only;omega⟩
 ·rcases RL.1 A with A | A
  ·exact (H y A).mono (show oL c<=oL (c+1) by rw[oL];omega)
  ·rw[List.mem_singleton.1 A];exact aj
 ·dsimp only at K;unfold D5 at K;rcases Nat.lt_trichotomy j E.length with J | J | J
  ·rw[RY J]at K;exact D.up j p K
  ·subst J;rw[List.getElem?_concat_length]at K;have:=S p K;omega
  ·rw[SC (by rw[RK,List.length_singleton];omega)]at K;cases K
 ·rcases RL.1 A with A | A
  ·exact D.nice y A
  ·rw[List.mem_singleton.1 A];exact⟨an,by dsimp only;omega,by dsimp only;omega⟩
 ·rcases RL.1 A with A | A
  ·exact (D.tree y A).mono (show mA c<=mA (c+1) by rw[mA];omega)
  ·rw[List.mem_singleton.1 A];exact Y
set_option maxHeartbeats 1000000
theorem getO_mapO(f:Ob->Ob):∀(ob:Obs) (j:Nat),C2 (QM f ob) j=(C2 ob j).map f
 | [],_=>rfl
 | (i,o)::r,j=>by
  show C2 ((i,f o)::QM f r) j=_;by_cases e:i=j
  ·subst e;rw[E5,E5];rfl
  ·rw[C5 e,C5 e,getO_mapO f r j]
abbrev auto5:AL.Auto:=⟨[PN,PO,QI,OA,OA,PP],5⟩
abbrev aa:Str:=[97,97]
structure AS where
 opn:List Int
 th:List AL.Thread
 sn:List Bool
def DV(x:AS):Int:=J9 x.opn (x.opn.length-1)
def JP(a:Nat)(fr:Int)(x:AS):AS :=
 if L3 x.sn (DV x).toNat=true then ⟨x.opn.take (x.opn.length-1),x.th,x.sn⟩
 else ⟨x.opn.take (x.opn.length-1)++CO (auto5.States.getD (DV x).toNat bO) (decide ((a:Int)=0)) (decide ((a:Int)=(aa.length:Int))),x.th++[⟨DV x,fr⟩],x.sn.set (DV x).toNat true⟩
def KT(a:Nat)(fr:Int)(x:AS):Nat->AS
 | 0=>x
 | n+1=>JP a fr (KT a fr x n)
def zZ(y:AS):Prop:=0<y.opn.length/\y.opn.length<=10/\0<=DV y/\DV y<6/\y.sn.length=6/\y.th.length<=10
instance (y:AS):Decidable (zZ y):=by unfold zZ;infer_instance
def addOk(a:Nat)(fr:Int)(x:AS)(n:Nat):Bool:=(List.range n).all (fun k=>decide (zZ (KT a fr x k)))
end Go.Proofs.YtbflhoahmmfkmaaGreatDoor
