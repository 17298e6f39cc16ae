/- Walks of the program's functions. -/
import Derived.Test.YtbflhoahmmfkmaaGreatDoorFd
set_option linter.all false
namespace Go.Proofs.YtbflhoahmmfkmaaGreatDoor
open Go Go.AL
set_option maxRecDepth 100000
set_option maxHeartbeats 1000000
theorem PA{gf:Fr}{ob:Obs}(c:List Str)(s:Str)(q:s∈c)(j:C5 ob 710=some (.box [.mut 711,.buf 712 Str 1 R8 c]))(k:C5 ob 711=some (.map Str aJ (z6 c 0))) :
  AL.Met Tryz.prog 241 [.one (.ref 710 0),.one (.p (.v (.string ⟨s.toArray⟩)))] gf ob [] (fun w ob'=>w=[.one (.p (.v (.int .i64 (M6 c s 0))))]/\ob'=ob):=by
 have l:=vX s c 0 q;refine AL.Met.intro Tryz.func241 (by decide) Z Z Z ?_;refine k2 ?_;refine A7 (A6 (A9 Z Z) Z (B0 ?_));refine k1 (k2 ?_);refine A7 (A6 (A8 Z Z) Z (A6 (B5 Z) Z (A6 (B1 Z) Z (A6 (B2 Z j Z) Z (A6 (A8 Z Z) Z (A6 (fH (s) (r:=some (.v (.int .i64 (M6 c s 0)))) Z k Z fI fJ (l)) Z (A6 (A8 Z Z) Z (A6 (B7 Z Z) Z (A6 (B7 Z Z) Z (A6 (A9 Z Z) Z (A6 (A9 Z Z) Z (B0 ?_))))))))))));refine k1 (k2 (k2 ?_));refine A7 (A6 (A8 Z Z) Z (A6 (N2 Z) Z (B0 ?_)));refine k1 ?_;refine B9 rfl (fun d=>?_) (fun d=>?_)
 ·cases d
 refine k5 (k1 (k2 ?_));refine A7 (A6 (A8 Z Z) Z (A6 (A9 Z Z) Z (B0 ?_)));refine k1 (I9 ?_);exact I6 (X2 rfl rfl) (by repeat (first | exact C3 | refine C4 rfl ?_ | refine F8 _ ?_)) (fun _ _ h=>h) ⟨rfl,rfl⟩
theorem PB{gf:Fr}{ob:Obs}(d:List Str)(s:Str)(C:s∉d)(E:d.length<=1073741823)(q:C5 ob 710=some (.box [.mut 711,.buf 712 Str 1 R8 d]))(y:C5 ob 711=some (.map Str aJ (z6 d 0)))
  (B:C5 ob 712=some (.spare d.length 1 9)) :
  AL.Met Tryz.prog 241 [.one (.ref 710 0),.one (.p (.v (.string ⟨s.toArray⟩)))] gf ob [712] (fun D ob'=>D=[.one (.p (.v (.int .i64 d.length)))]/\ob'=(710,.box [.mut 711,.buf 712 Str 1 R8 (d++[s])])::(712,.spare (d++[s]).length 1 9)::Obs.forget 712 ((711,.map Str aJ (z6 d 0++[(s,.v (.int .i64 d.length))]))::ob)):=by
 have z:=sL s d 0 C;refine AL.Met.intro Tryz.func241 (by decide) Z Z Z ?_;refine k2 ?_;refine A7 (A6 (A9 Z Z) Z (B0 ?_));refine k1 (k2 ?_);refine A7 (A6 (A8 Z Z) Z (A6 (B5 Z) Z (A6 (B1 Z) Z (A6 (B2 Z q Z) Z (A6 (A8 Z Z) Z (A6 (fH (s) (r:=none) Z y Z fI fJ (z)) Z (A6 (A8 Z Z) Z (A6 (B7 Z Z) Z (A6 (B7 Z Z) Z (A6 (A9 Z Z) Z (A6 (A9 Z Z) Z (B0 ?_))))))))))));refine k1 (k2 (k2 ?_));refine A7 (A6 (A8 Z Z) Z (A6 (N2 Z) Z (B0 ?_)));refine k1 ?_;refine B9 rfl (fun A=>?_) (fun A=>?_)
 ·refine k2 ?_;refine A7 (A6 (A8 Z Z) Z (A6 (B5 Z) Z (A6 (B1 Z) Z (A6 (B2 Z q Z) Z (A6 (F0 Z (.buf _ _ _ _ _)) Z (A6 (A9 Z Z) Z (B0 ?_)))))));refine k1 (k2 ?_);refine A7 (A6 (A8 Z Z) Z (A6 (B5 Z) Z (A6 (B1 Z) Z (A6 (B2 Z q Z) Z (A6 (A8 Z Z) Z (A6 (A8 Z Z) Z (F7 (qP (s) Z y Z Z Z fI fJ (z)) (B0 ?_))))))));refine k1 ?_;have j:C5 ((711,Ob.map Str aJ (z6 d 0++[(s,.v (.int .i64 d.length))]))::ob) 710=some (.box [.mut 711,.buf 712 Str 1 R8 d]):=by rw[C8 (by decide)];exact q
  have w:C5 ((711,Ob.map Str aJ (z6 d 0++[(s,.v (.int .i64 d.length))]))::ob) 712=some (.spare d.length 1 9):=by rw[C8 (by decide)];exact B
  have k:C5 ((712,Ob.spare (d++[s]).length 1 9)::Obs.forget 712 ((711,Ob.map Str aJ (z6 d 0++[(s,.v (.int .i64 d.length))]))::ob)) 710=some (.box [.mut 711,.p (.list Str 1 R8 d)]):=by
   rw[C8 (by decide),L0,j];rfl
  refine A7 (A6 (A8 Z Z) Z (A6 (A8 Z Z) Z (A6 (B5 Z) Z (A6 (B1 Z) Z (A6 (B2 Z j Z) Z (A6 (A8 Z Z) Z (A6 (D9 (c:=R8) (ys:=[s]) (D8 Z Z Z Z H5) Z Z Z) Z (D6 (N6 Z w Z (.pure _ _ _ _) (by (simp only[WW,XD];omega)) Z) Z (A6 (B5 Z) Z (A6 (B1 Z) Z (F7 (C1 TySz.out Z k Z Z Z Z) (B0 ?_))))))))))));refine k1 (k2 ?_);refine A7 (A6 (A8 Z Z) Z (A6 (A9 Z Z) Z (B0 ?_)));refine k1 (I9 ?_);exact I6 (X2 rfl rfl) (by repeat (first | exact C3 | refine C4 rfl ?_ | refine F8 _ ?_)) (fun _ _ h=>h) ⟨rfl,rfl⟩
 ·cases A
theorem DW(files:List (List Str))(i m:Nat):(O7 files i).all (TC.free m)=true:=by
 rw[List.all_eq_true];intro t b;unfold O7 at b;obtain⟨r,_,rfl⟩:=XU.1 b;split<;>rfl
theorem IS{files:List (List Str)}{i:Nat}(b x:TC)(m:Nat):(((O7 files i).set i b).map (TC.forget m)).set i x=(O7 files i).set i x:=by
 have c:(O7 files i).map (TC.forget m)=O7 files i:=by
  unfold O7;rw[YJ];apply List.map_congr_left;intro r _;simp only[Function.comp];split<;>rfl
 rw[List.map_set,c,List.set_set]
theorem DX{files:List (List Str)}{i:Nat}(b x:TC)(m d:Nat):((((O7 files i).set i b).map (TC.forget m)).map (TC.forget d)).set i x=(O7 files i).set i x:=by
 have c:∀m,(O7 files i).map (TC.forget m)=O7 files i:=by
  intro m;unfold O7;rw[YJ];apply List.map_congr_left;intro r _;simp only[Function.comp];split<;>rfl
 rw[List.map_set,c,List.map_set,c,List.set_set]
theorem IT(files:List (List Str))(hn:files.length<=1048576)(hl:files.flatten.length<=536870911):FnOk Tryz.prog 178 [pStrss files] (fun rs=>rs=[pIntss (files.map (K3 (F9 files))),aY (F9 files)]):=by
 refine FnOk.intro Tryz.func178 (by decide) Z Z Z Z ?_;refine k2 ?_;refine A7 (A6 (A9 Z Z) Z (A6 (A9 Z Z) Z (B0 ?_)));refine k1 (k2 ?_);refine A7 (D6 (mV 711 Str aJ Z) Z (A6 (H1 Z) Z (D6 (j1 710 Z Z Z) Z (A6 (A9 Z Z) Z (B0 ?_)))));refine k1 (k2 ?_);refine G8 (WF 712 Str 1 R8 9 (kb:=710) (o:=1) Z Z Z) ?_;refine A7 (A6 (A8 Z Z) Z (A6 (F0 Z (.pure _ _ _ _)) Z (D6 (aZ 20 Unit (fun _ _=>.v (.slice none 0 0)) () Z Z (by omega) (by omega) (fun _=>by first | exact⟨⟨rfl,rfl⟩,trivial⟩ | exact⟨I5 _ _ _,trivial⟩ | exact⟨I5 _ _ _,⟨rfl,rfl⟩,I5 _ _ _,trivial⟩ | exact⟨⟨rfl,rfl⟩,⟨rfl,rfl⟩,trivial⟩) (by first | rfl | (simp[I2,M9,Ob.free,SV.free,S1.free,TC.free]<;>rfl))) Z ?_)));refine A6 (A9 Z Z) Z (B0 ?_);refine k1 (k2 (k2 ?_));refine G8 (WR 20 Z) ?_;have hz:((List.replicate ((files.length:Nat):Int).toNat ()).map fun x=>TC.p ((fun (_:Unit) (_:Nat)=>Cell.v (.slice none 0 0)) x 0))=O7 files 0:=by
  rw[WV,<-EZ];simp
 have Y:(List.replicate ((files.length:Nat):Int).toNat ()).length=files.length:=by simp
 rw[hz,Y];refine A7 (A6 (A8 Z Z) Z (A6 (F0 Z (.pure _ _ _ _)) Z (A6 (A8 Z Z) Z (B0 ?_))));refine k1 (k3 ?_);refine E4 (X:=Nat) (fun i=>([(4,.s (.one (.ref 710 0))),(5,.s (.one (.mut 20))),(16,E3 (List Str) 1 strsC files),(17,C7 files.length),(18,C7 i)],[(710,.box [.mut 711,.buf 712 Str 1 R8 (O0 files i 0)]),(711,.map Str aJ (z6 (O0 files i 0) 0)),(712,.spare (O0 files i 0).length 1 9),(20,.tarr files.length 1 (O7 files i))])) (fun i=>i<=files.length) (fun i=>files.length-i) 0 (Nat.zero_le _) ?_ ?_
 ·rw[show O0 files 0 0=[] from rfl];exact Sees.of ⟨B4 rfl,B4 rfl,B4 rfl,B4 rfl,B4 rfl,trivial⟩ ⟨rfl,rfl,rfl,rfl,trivial⟩
 intro i hi;dsimp only at hi ⊢;refine k2 ?_;refine A7 (A6 (F3 Z Z) Z (B0 ?_));refine k1 (k2 ?_);refine B9 rfl (fun K=>?_) (fun K=>?_)
 ·have G:i<files.length:=by have:=A0 K;omega
  obtain⟨f,O⟩:∃f,f=files.getD i []:=⟨_,rfl⟩
  have hv:files[i]?=some f:=by rw[O];simp[G]
  have ab:f.length<=files.flatten.length:=by
   have h1:f∈files:=XL hv;have:∀(M:List (List Str)),f∈M->f.length<=M.flatten.length:=by
    intro M;induction M with
    | nil=>intro h;simp at h
    | cons x r ih =>
     intro h;simp only[YI,WX];rcases XB.1 h with rfl | h
     ·omega
     ·have:=ih h;omega
   exact this files h1
  have W:(O7 files i).length=files.length:=by simp[O7]
  refine k5 (k1 (k2 (k3 (k2 ?_))));refine A7 (A6 (A8 Z Z) Z (A6 (B8 Z (.pure _ _ _ _) Z (by omega) hv) Z (A6 (C0 Z Z) Z (A6 (A9 Z Z) Z (A6 (A9 Z Z) Z (B0 ?_))))));refine k1 (k2 ?_);refine A7 (A6 (A8 Z Z) Z (A6 (F0 Z (.pure _ _ _ _)) Z (A6 (A8 Z Z) Z (B0 ?_))));refine k1 (k3 ?_);refine G8 (WP 713 Int 1 G1 3 (kb:=20) (o:=i) Z (JR G) (by simp[I2,M9,Ob.free,SV.free,S1.free,TC.free,DW];repeat' (first | rfl | constructor))) ?_;refine E4 (X:=Nat) (fun j=>([(4,.s (.one (.ref 710 0))),(5,.s (.one (.mut 20))),(6,C7 i),(16,E3 (List Str) 1 strsC files),(17,C7 files.length),(18,C7 i),(23,E3 Str 1 R8 f),(24,C7 f.length),(25,C7 j)],[(20,.tarr files.length 1 ((O7 files i).set i (.buf 713 Int 1 G1 (K3 (F9 files) (f.take j))))),(710,.box [.mut 711,.buf 712 Str 1 R8 (O0 files i j)]),(711,.map Str aJ (z6 (O0 files i j) 0)),(712,.spare (O0 files i j).length 1 9),(713,.spare (K3 (F9 files) (f.take j)).length 1 3)])) (fun j=>j<=f.length) (fun j=>f.length-j) 0 (Nat.zero_le _) ?_ ?_
  ·exact Sees.of ⟨B4 rfl,B4 rfl,B4 rfl,B4 rfl,B4 rfl,B4 rfl,B4 rfl,B4 rfl,B4 rfl,trivial⟩ ⟨rfl,rfl,rfl,rfl,rfl,trivial⟩
  intro j hj;dsimp only at hj ⊢;refine k2 ?_;refine A7 (A6 (F3 Z Z) Z (B0 ?_));refine k1 (k2 ?_);refine B9 rfl (fun K=>?_) (fun K=>?_)
  ·have B:j<f.length:=by have:=A0 K;omega
   obtain⟨s,hs⟩:∃s,s=f[j]:=⟨_,rfl⟩
   have L:f[j]?=some s:=by rw[hs];simp[B]
   have y:=yM files i j s (by rw[<-O];exact L);obtain⟨d,U⟩:∃d,d=O0 files i j:=⟨_,rfl⟩
   have T:=sM files i j;obtain⟨rest,w⟩:=oS files i (j+1);obtain⟨q,E⟩:∃q,q=K3 (F9 files) (f.take j):=⟨_,rfl⟩
   have ac:q.length=j:=by rw[E];simp[K3];omega
   have F:K3 (F9 files) (f.take (j+1))=q++[M6 (F9 files) s 0]:=by
    rw[E,XZ B,<-hs];unfold K3;rw[YC];rfl
   rw[y]at w;rw[<-U]at y T w ⊢;rw[<-E];have C:((O7 files i).set i (.buf 713 Int 1 G1 q))[((i:Nat):Int).toNat]?=some (.buf 713 Int 1 G1 q):=by
    rw[WV,List.getElem?_set_self (by rw[W];omega)]
   have A:(((O7 files i).set i (.buf 713 Int 1 G1 q)).map (TC.forget 712))[((i:Nat):Int).toNat]?=some (.buf 713 Int 1 G1 q):=by
    rw[YE,C];rfl
   refine k5 (k1 (k2 (k3 (k2 ?_))));refine A7 (A6 (B8 Z (.pure _ _ _ _) Z (by omega) L) Z (A6 (C0 Z Z) Z (A6 (A9 Z Z) Z (B0 ?_))));by_cases z:s∈d
   ·have I:M7 d s=d:=by unfold M7;rw[A4 z]
    rw[I]at y w;have J:M6 (F9 files) s 0=M6 d s 0:=by rw[w];exact fU s rest d 0 z
    refine Q8 ?_;refine Y9 ((9,P2 s)::[(4,.s (.one (.ref 710 0))),(5,.s (.one (.mut 20))),(6,C7 i),(16,E3 (List Str) 1 strsC files),(17,C7 files.length),(18,C7 i),(23,E3 Str 1 R8 f),(24,C7 f.length),(25,C7 j)]) [(20,.tarr files.length 1 ((O7 files i).set i (.buf 713 Int 1 G1 q))),(710,.box [.mut 711,.buf 712 Str 1 R8 d]),(711,.map Str aJ (z6 d 0)),(712,.spare d.length 1 9),(713,.spare q.length 1 3)] (Sees.of ⟨B4 rfl,B4 rfl,B4 rfl,B4 rfl,B4 rfl,B4 rfl,B4 rfl,B4 rfl,B4 rfl,B4 rfl,trivial⟩ ⟨rfl,rfl,rfl,rfl,rfl,trivial⟩) ?_;refine Y6 [12,10,8] [[],[8],[10,8],[12,10,8]] [(8,([],[])),(10,([713],[34])),(12,([],[]))] [(0,[]),(1,[]),(2,[]),(3,[]),(4,[]),(5,[]),(6,[]),(7,[]),(8,[]),(9,[8]),(10,[8]),(11,[10,8]),(12,[10,8])] [(0,[8]),(0,[10,8]),(1,[8]),(1,[10,8]),(2,[8]),(3,[8]),(4,[8]),(5,[8])] (by kernel_rfl) (by kernel_rfl) (H2 Z Z (by kernel_rfl) Z Z (A8 Z Z) (H2 Z Z (by kernel_rfl) Z Z (A8 Z Z) (H2 Z Z (by kernel_rfl) Z Z (A8 Z Z) (H2 Z Z (by kernel_rfl) Z Z (A8 Z Z) (H2 Z Z (by kernel_rfl) Z Z (R0 Z Z Z (by omega) (by omega)) (H2 Z Z (by kernel_rfl) Z Z (s6 Z Z (by first | exact C | exact A)) ?_))))));refine H2 Z Z (by kernel_rfl) Z Z (A8 Z Z) (H2 Z Z (by kernel_rfl) Z Z (A8 Z Z) (bC Z Z (by kernel_rfl) Z Z (QC (fun gf=>PA d s z Z Z) Z Z) Z (H2 Z Z (by kernel_rfl) Z Z (D9 (c:=G1) (ys:=[M6 d s 0]) (D8 Z Z Z Z H5) Z Z Z) (bC Z Z (by kernel_rfl) Z Z (qV (fun H D=>N6 (w9 D Z) Z (w9 D Z) (.pure _ _ _ _) (by (simp only[WW,XD];omega)) Z)) Z (H2 Z Z (by kernel_rfl) Z Z (R0 Z Z Z (by omega) (by omega)) (bC Z Z (by kernel_rfl) Z Z (qU (fun H D=>fB TySz.out (w9 D Z) Z (by (simp;omega)) (w9 D Z) Z)) Z ?_))))));refine FZ (by kernel_rfl) rfl ?_ ?_
    ·refine j6 Z Z (by kernel_rfl) Z Z (A8 Z Z) (j6 Z Z (by kernel_rfl) Z Z (A8 Z Z) (j6 Z Z (by kernel_rfl) Z Z (A8 Z Z) (j6 Z Z (by kernel_rfl) Z Z (A8 Z Z) (j6 Z Z (by kernel_rfl) Z Z (A8 Z Z) (j6 Z Z (by kernel_rfl) Z Z (A8 Z Z) (j6 Z Z (by kernel_rfl) Z Z (R0 Z Z Z (by omega) (by omega)) (j6 Z Z (by kernel_rfl) Z Z (s6 Z Z (by first | exact C | exact A)) ?_)))))));exact uP
    refine Y9 [(4,.s (.one (.ref 710 0))),(5,.s (.one (.mut 20))),(6,C7 i),(16,E3 (List Str) 1 strsC files),(17,C7 files.length),(18,C7 i),(23,E3 Str 1 R8 f),(24,C7 f.length),(25,C7 j)] [(20,.tarr files.length 1 ((O7 files i).set i (.buf 713 Int 1 G1 (q++[M6 d s 0])))),(710,.box [.mut 711,.buf 712 Str 1 R8 (d)]),(711,.map Str aJ (z6 (d) 0)),(712,.spare (d).length 1 9),(713,.spare (q++[M6 d s 0]).length 1 3)] (by rw[WV i,IS];exact Sees.of ⟨B4 rfl,B4 rfl,B4 rfl,B4 rfl,B4 rfl,B4 rfl,B4 rfl,B4 rfl,B4 rfl,trivial⟩ ⟨rfl,rfl,rfl,rfl,rfl,trivial⟩) ?_;refine A7 (A6 (D5 Z Z (by omega)) Z (A6 (A8 Z Z) Z (B0 ?_)));refine k1 ?_;exact⟨j+1,B,by omega,by rw[y,F,J];exact Sees.of ⟨B4 rfl,B4 rfl,B4 rfl,B4 rfl,B4 rfl,B4 rfl,B4 rfl,B4 rfl,B4 rfl,trivial⟩ ⟨rfl,rfl,rfl,rfl,rfl,trivial⟩⟩
   ·refine Q8 ?_;have I:M7 d s=d++[s]:=by unfold M7;rw[A5 z]
    rw[I]at y w;have S:z6 (d++[s]) 0=z6 d 0++[(s,.v (.int .i64 (d.length:Int)))]:=by rw[vW];simp only[Int.zero_add]
    have J:M6 (F9 files) s 0=d.length:=by
     rw[w,fU s rest (d++[s]) 0 (by simp),oR s d 0 z];omega
    refine Y9 ((9,P2 s)::[(4,.s (.one (.ref 710 0))),(5,.s (.one (.mut 20))),(6,C7 i),(16,E3 (List Str) 1 strsC files),(17,C7 files.length),(18,C7 i),(23,E3 Str 1 R8 f),(24,C7 f.length),(25,C7 j)]) [(20,.tarr files.length 1 ((O7 files i).set i (.buf 713 Int 1 G1 (q)))),(710,.box [.mut 711,.buf 712 Str 1 R8 (d)]),(711,.map Str aJ (z6 (d) 0)),(712,.spare (d).length 1 9),(713,.spare (q).length 1 3)] (Sees.of ⟨B4 rfl,B4 rfl,B4 rfl,B4 rfl,B4 rfl,B4 rfl,B4 rfl,B4 rfl,B4 rfl,B4 rfl,trivial⟩ ⟨rfl,rfl,rfl,rfl,rfl,trivial⟩) ?_;refine Y6 [12,10,8] [[],[8],[10,8],[12,10,8]] [(8,([712],[])),(10,([713],[34])),(12,([],[]))] [(0,[]),(1,[]),(2,[]),(3,[]),(4,[]),(5,[]),(6,[]),(7,[]),(8,[]),(9,[8]),(10,[8]),(11,[10,8]),(12,[10,8])] [(0,[8]),(0,[10,8]),(1,[8]),(1,[10,8]),(2,[8]),(3,[8]),(4,[8]),(5,[8])] (by kernel_rfl) (by kernel_rfl) (H2 Z Z (by kernel_rfl) Z Z (A8 Z Z) (H2 Z Z (by kernel_rfl) Z Z (A8 Z Z) (H2 Z Z (by kernel_rfl) Z Z (A8 Z Z) (H2 Z Z (by kernel_rfl) Z Z (A8 Z Z) (H2 Z Z (by kernel_rfl) Z Z (R0 Z Z Z (by omega) (by omega)) (H2 Z Z (by kernel_rfl) Z Z (s6 Z Z (by first | exact C | exact A)) ?_))))));refine H2 Z Z (by kernel_rfl) Z Z (A8 Z Z) (H2 Z Z (by kernel_rfl) Z Z (A8 Z Z) (bC Z Z (by kernel_rfl) Z Z (QC (fun gf=>PB d s z (by omega) Z Z Z) Z Z) Z (H2 Z Z (by kernel_rfl) Z Z (D9 (c:=G1) (ys:=[(d.length:Int)]) (D8 Z Z Z Z H5) Z Z Z) (bC Z Z (by kernel_rfl) Z Z (qV (fun H D=>N6 (w9 D Z) Z (w9 D Z) (.pure _ _ _ _) (by (simp only[WW,XD];omega)) Z)) Z (H2 Z Z (by kernel_rfl) Z Z (R0 Z Z Z (by omega) (by omega)) (bC Z Z (by kernel_rfl) Z Z (qU (fun H D=>fB TySz.out (w9 D Z) Z (by (simp;omega)) (w9 D Z) Z)) Z ?_))))));refine FZ (by kernel_rfl) rfl ?_ ?_
    ·refine j6 Z Z (by kernel_rfl) Z Z (A8 Z Z) (j6 Z Z (by kernel_rfl) Z Z (A8 Z Z) (j6 Z Z (by kernel_rfl) Z Z (A8 Z Z) (j6 Z Z (by kernel_rfl) Z Z (A8 Z Z) (j6 Z Z (by kernel_rfl) Z Z (A8 Z Z) (j6 Z Z (by kernel_rfl) Z Z (A8 Z Z) (j6 Z Z (by kernel_rfl) Z Z (R0 Z Z Z (by omega) (by omega)) (j6 Z Z (by kernel_rfl) Z Z (s6 Z Z (by first | exact C | exact A)) ?_)))))));exact uP
    refine Y9 [(4,.s (.one (.ref 710 0))),(5,.s (.one (.mut 20))),(6,C7 i),(16,E3 (List Str) 1 strsC files),(17,C7 files.length),(18,C7 i),(23,E3 Str 1 R8 f),(24,C7 f.length),(25,C7 j)] [(20,.tarr files.length 1 ((O7 files i).set i (.buf 713 Int 1 G1 (q++[(d.length:Int)])))),(710,.box [.mut 711,.buf 712 Str 1 R8 (d++[s])]),(711,.map Str aJ (z6 (d++[s]) 0)),(712,.spare (d++[s]).length 1 9),(713,.spare (q++[(d.length:Int)]).length 1 3)] (by rw[WV i,DX,S];exact Sees.of ⟨B4 rfl,B4 rfl,B4 rfl,B4 rfl,B4 rfl,B4 rfl,B4 rfl,B4 rfl,B4 rfl,trivial⟩ ⟨rfl,rfl,rfl,rfl,rfl,trivial⟩) ?_;refine A7 (A6 (D5 Z Z (by omega)) Z (A6 (A8 Z Z) Z (B0 ?_)));refine k1 ?_;exact⟨j+1,B,by omega,by rw[y,F,J];exact Sees.of ⟨B4 rfl,B4 rfl,B4 rfl,B4 rfl,B4 rfl,B4 rfl,B4 rfl,B4 rfl,B4 rfl,trivial⟩ ⟨rfl,rfl,rfl,rfl,rfl,trivial⟩⟩
  ·have R:j=f.length:=by have:=A1 K;omega
   subst R;rw[XF];refine k6 (k7 (k7 (k8 Z (k4 (k1 ?_)))));refine G8 (Sees.forget 713) ?_;have P:((O7 files i).set i (.buf 713 Int 1 G1 (K3 (F9 files) f))).map (TC.forget 713)=O7 files (i+1):=by rw[O];exact yN files i 713 G
   have V:O0 files (i+1) 0=O0 files i f.length:=by rw[O];exact BE files i
   refine Y9 [(4,.s (.one (.ref 710 0))),(5,.s (.one (.mut 20))),(16,E3 (List Str) 1 strsC files),(17,C7 files.length),(18,C7 i)] [(710,.box [.mut 711,.buf 712 Str 1 R8 (O0 files (i+1) 0)]),(711,.map Str aJ (z6 (O0 files (i+1) 0) 0)),(712,.spare (O0 files (i+1) 0).length 1 9),(20,.tarr files.length 1 (O7 files (i+1)))] (by rw[V,<-P];exact Sees.of ⟨B4 rfl,B4 rfl,B4 rfl,B4 rfl,B4 rfl,trivial⟩ ⟨rfl,rfl,rfl,rfl,trivial⟩) ?_;refine A7 (A6 (D5 Z Z (by omega)) Z (A6 (A8 Z Z) Z (B0 ?_)));refine k1 ?_;exact⟨i+1,G,by omega,Sees.of ⟨B4 rfl,B4 rfl,B4 rfl,B4 rfl,B4 rfl,trivial⟩ ⟨rfl,rfl,rfl,rfl,trivial⟩⟩
 ·have Q:i=files.length:=by have:=A1 K;omega
  rw[Q,BF];refine G8 (WS 20 (c:=intsC) (files.map (K3 (F9 files))) Z (by simp) (FA files)) ?_;refine G8 (Sees.freeze (k:=20) Z) ?_;refine G8 (Sees.forget 712) ?_;refine k6 (k2 ?_);refine D7 (by kernel_rfl) (by kernel_rfl) (B3 (A8 Z Z) Z Z (B3 (A8 Z Z) Z Z (B3 (B5 Z) Z Z (B3 (B1 Z) Z Z (B3 (B2 Z Z Z) Z Z (B3 (A9 Z Z) Z Z (B3 (A9 Z Z) Z Z (M5 ?_))))))));refine k1 (I9 ?_);exact C2 (U1 rfl rfl rfl rfl rfl) rfl
theorem lF(files:List (List Str))(b:files.length<=1048576)(a:files.flatten.length<=536870911):FnOk Tryz.prog 129 [pStrss files] (fun rs=>rs=[pIntss (files.map (K3 (F9 files)))]):=by
 refine FnOk.intro Tryz.func129 (by decide) Z Z Z Z ?_;refine k2 ?_;refine A7 (A6 (A9 Z Z) Z (B0 ?_));refine k1 (k2 ?_);refine A7 (A6 (A8 Z Z) Z (D1 (IT files b a) Z Z Z ?_));rintro _ rfl;refine A6 (A8 Z Z) Z (A6 (B7 Z Z) Z (A6 (B7 Z Z) Z (A6 (A9 Z Z) Z (A6 (A9 Z Z) Z (B0 ?_)))));refine k1 (k2 ?_);refine A7 (A6 (A8 Z Z) Z (A6 (A9 Z Z) Z (B0 ?_)));refine k1 (I9 ?_);exact C2 (J5 rfl rfl rfl) rfl
abbrev pG(i:Int):Ob:=.box [.p (.v (.int .i64 i))]
theorem oG{gf:Fr}{ob:Obs}(e i j:Int)(d:List Span)(G:e<=1048576)(H:0<=j)(D:j<=536870912)(I:(d.length:Int)<=i)
  (A:C5 ob 5=some (.box [.buf 20 Span 2 spanC d])) (B:C5 ob 6=some (pG i)) (C:C5 ob 7=some (pG j)) (k:C5 ob 20=some (.spare d.length 2 46)) :
  AL.Met Tryz.prog 303 [.one (.p (.v (.int .i64 e))),.one (.ref 6 0),.one (.ref 5 0),.one (.ref 7 0)] gf ob [20]
   (fun F ob'=>F=[]/\ob'=(5,.box [.buf 20 Span 2 spanC (d++N9 i j (e-i).toNat)])::(6,pG (i+(e-i).toNat))::(7,pG (j+(e-i).toNat))::(20,.spare (d++N9 i j (e-i).toNat).length 2 46)::Obs.forget 20 ob):=by
 refine AL.Met.introH Tryz.func303 (by decide) rfl rfl rfl (fun w=>?_);refine k3 ?_;refine E4 (X:=Nat) (fun t=>([(0,C7 e),(1,.s (.one (.ref 6 0))),(2,.s (.one (.ref 5 0))),(3,.s (.one (.ref 7 0)))]++Fr.forget 20 gf,(5,.box [.buf 20 Span 2 spanC (d++N9 i j t)])::(6,pG (i+t))::(7,pG (j+t))::(20,.spare (d++N9 i j t).length 2 46)::Obs.forget 20 ob)) (fun t=>t<=(e-i).toNat) (fun t=>(e-i).toNat-t) 0 (Nat.zero_le _) ?_ ?_
 ·rw[y9,YB,show i+((0:Nat):Int)=i by omega,show j+((0:Nat):Int)=j by omega];exact VZ 20 (l:=[(0,C7 e),(1,.s (.one (.ref 6 0))),(2,.s (.one (.ref 5 0))),(3,.s (.one (.ref 7 0)))]) (L:=[(5,_),(6,_),(7,_),(20,_)]) ⟨B4 rfl,B4 rfl,B4 rfl,B4 rfl,trivial⟩ w (by repeat (first | exact C3 | refine C4 rfl ?_)) ⟨A,B,C,k,trivial⟩
 intro t q;dsimp only at q ⊢;have E:=X5 i j t;refine k2 (k2 ?_);refine A7 (A6 (B2 Z Z Z) Z (A6 (A8 Z Z) Z (A6 (F3 Z Z) Z (B0 ?_))));refine k1 ?_;refine B9 rfl (fun m=>?_) (fun m=>?_)
 ·have y:=A0 m;refine k5 (k1 (k2 (k3 (k2 ?_))));refine A7 (A6 (B2 Z Z Z) Z (A6 (B2 Z Z Z) Z (A6 (B2 Z Z Z) Z (A6 (H1 Z) Z (A6 (D9 (c:=spanC) (ys:=[⟨i+t,j+t⟩]) (D8 Z Z Z Z H5) Z Z Z) Z (D6 (N6 Z Z Z (.pure _ _ _ _) (by (simp only[WX,WW,XD];omega)) Z) Z (F7 (C1 TySz.out Z Z Z Z Z Z) (B0 ?_))))))));refine k1 ?_;refine A7 (A6 (B2 Z Z Z) Z (A6 (D5 Z Z (by omega)) Z (F7 (C1 TySz.out Z Z Z Z Z Z) (B0 ?_))));refine k4 (k1 ?_);refine A7 (A6 (B2 Z Z Z) Z (A6 (D5 Z Z (by omega)) Z (F7 (C1 TySz.out Z Z Z Z Z Z) (B0 ?_))));refine k1 ?_;refine⟨t+1,by omega,by omega,?_⟩;rw[lK,<-XH,show i+((t+1:Nat):Int)=i+t+1 by omega,show j+((t+1:Nat):Int)=j+t+1 by omega];exact VW ⟨B4 rfl,B4 rfl,B4 rfl,B4 rfl,trivial⟩ (t6 w) (by repeat (first | exact C3 | refine C4 rfl ?_ | refine U2 _ ?_)) (G9 (L:=[(5,_),(6,_),(7,_),(20,_)]) ⟨rfl,rfl,rfl,rfl,trivial⟩ (by repeat (first | exact F6 | refine G3 rfl ?_ | refine gL _ ?_)))
 ·have y:=A1 m;have z:t=(e-i).toNat:=by omega
  subst z;refine k6 (k7 (k7 (k8 Z ?_)));exact X1 (eM rfl) (by repeat (first | exact C3 | refine C4 rfl ?_ | refine F8 _ ?_)) (fun _ _ h=>h) ⟨rfl,rfl⟩
theorem IU(l:List Change)(m:Int)(M:l.length<=32768)(O:m<=4096)(hb:∀c∈l,c.Old<=4096/\0<=c.OldLen/\c.OldLen<=4096/\0<=c.NewLen/\c.NewLen<=4096) :
  FnOk Tryz.prog 278 [pChanges l,E8 m] (fun rs=>rs=[pSpans (R1 l m)]):=by
 refine FnOk.intro Tryz.func278 (by decide) Z Z Z Z ?_;refine k2 ?_;refine A7 (A6 (A9 Z Z) Z (B0 ?_));refine k1 (k2 ?_);refine A7 (D6 (I1 5 Z) Z (B0 ?_));refine G8 (WF 20 Span 2 spanC 46 (kb:=5) (o:=0) Z Z Z) ?_;refine k2 ?_;refine A7 (D6 (I1 6 Z) Z (D6 (I1 7 Z) Z (F7 (C1 TySz.out Z Z Z Z Z Z) (F7 (C1 TySz.out Z Z Z Z Z Z) (B0 ?_)))));refine k1 (k2 ?_);refine A7 (A6 (dI Z Z) Z (A6 (A9 Z Z) Z (B0 ?_)));refine k1 (k2 (k2 ?_));refine A7 (A6 (A8 Z Z) Z (A6 (F0 Z (.pure _ _ _ _)) Z (A6 (A8 Z Z) Z (B0 ?_))));refine k1 (k3 ?_);refine E4 (X:=Nat×Int×Int×List Span) (fun x=>([(1,C7 m),(5,.s (.one (.ref 5 0))),(6,.s (.one (.ref 6 0))),(7,.s (.one (.ref 7 0))),(8,.s (.one (.clo 303 [] [(6,0),(5,0),(7,0)]))),(12,E3 Change 4 changeC l),(13,C7 l.length),(14,C7 x.1)],[(5,.box [.buf 20 Span 2 spanC x.2.2.2]),(6,pG x.2.1),(7,pG x.2.2.1),(20,.spare x.2.2.2.length 2 46)]))
  (fun x=>x.1<=l.length/\0<=x.2.1/\(x.2.2.2.length:Int)<=x.2.1/\x.2.1<=4096+x.1*4096/\0<=x.2.2.1/\x.2.2.1<=x.1*8192/\x.2.2.2++T4 x.2.1 x.2.2.1 (l.drop x.1) m=R1 l m)
  (fun x=>l.length-x.1) (0,0,0,[]) (by simp[R1]) (Sees.of ⟨B4 rfl,B4 rfl,B4 rfl,B4 rfl,B4 rfl,B4 rfl,B4 rfl,B4 rfl,trivial⟩ ⟨rfl,rfl,rfl,rfl,trivial⟩) ?_
 rintro⟨k,i,j,d⟩ ⟨J,I,D,z,A,B,q⟩;dsimp only at J I D z A B q ⊢;refine k2 ?_;refine A7 (A6 (F3 Z Z) Z (B0 ?_));refine k1 (k2 ?_);refine B9 rfl (fun F=>?_) (fun F=>?_)
 ·have y:k<l.length:=by have:=A0 F;omega
  obtain⟨c,w⟩:∃c,c=l[k]:=⟨_,rfl⟩
  have G:l[k]?=some c:=by rw[w];simp[y]
  have L:=hb c (XL G);rw[XA y,<-w,T4]at q;refine k5 (k1 (k2 (k3 (k2 ?_))));refine A7 (A6 (B8 Z (.pure _ _ _ _) Z (by omega) G) Z (A6 (G7 Z Z) Z (D6 (I1 10 Z) Z (F7 (C1 TySz.out Z Z Z Z Z Z) (B0 ?_)))));refine k1 (k2 ?_);refine Y9 [(1,C7 m),(5,.s (.one (.ref 5 0))),(6,.s (.one (.ref 6 0))),(7,.s (.one (.ref 7 0))),(8,.s (.one (.clo 303 [] [(6,0),(5,0),(7,0)]))),(10,.s (.one (.ref 10 0))),(12,E3 Change 4 changeC l),(13,C7 l.length),(14,C7 k)] [(5,.box [.buf 20 Span 2 spanC d]),(6,pG i),(7,pG j),(20,.spare d.length 2 46),(10,.box [.p (.v (.int .i64 c.Old)),.p (.v (.int .i64 c.OldLen)),.p (.v (.int .i64 c.New)),.p (.v (.int .i64 c.NewLen))])] (Sees.of ⟨B4 rfl,B4 rfl,B4 rfl,B4 rfl,B4 rfl,B4 rfl,B4 rfl,B4 rfl,B4 rfl,trivial⟩ ⟨rfl,rfl,rfl,rfl,rfl,trivial⟩) ?_;refine A7 (A6 (A8 Z Z) Z (A6 (B1 Z) Z (A6 (B2 Z Z Z) Z (jH (oG c.Old i j d (by omega) A (by omega) D Z Z Z Z) Z Z Z Z ?_))));rintro _ _ ⟨rfl,rfl⟩;refine B0 ?_;refine k1 ?_;obtain⟨n,K⟩:∃n,n=(c.Old-i).toNat:=⟨_,rfl⟩
  rw[<-K]at q ⊢;refine Y9 [(1,C7 m),(5,.s (.one (.ref 5 0))),(6,.s (.one (.ref 6 0))),(7,.s (.one (.ref 7 0))),(8,.s (.one (.clo 303 [] [(6,0),(5,0),(7,0)]))),(10,.s (.one (.ref 10 0))),(12,E3 Change 4 changeC l),(13,C7 l.length),(14,C7 k)] [(5,.box [.buf 20 Span 2 spanC (d++N9 i j n)]),(6,pG (i+n)),(7,pG (j+n)),(20,.spare (d++N9 i j n).length 2 46),(10,.box [.p (.v (.int .i64 c.Old)),.p (.v (.int .i64 c.OldLen)),.p (.v (.int .i64 c.New)),.p (.v (.int .i64 c.NewLen))])] (Sees.of ⟨B4 rfl,B4 rfl,B4 rfl,B4 rfl,B4 rfl,B4 rfl,B4 rfl,B4 rfl,B4 rfl,trivial⟩ ⟨rfl,rfl,rfl,rfl,rfl,trivial⟩) ?_;refine dH [9,8] [[],[8],[9,8]] [(4,[8]),(5,[8]),(6,[8]),(7,[8])] (by kernel_rfl) (by kernel_rfl) (V6 Z (B2 Z Z Z) (V6 Z (B1 Z) (V6 Z (B2 Z Z Z) (V6 Z (D5 Z Z (by omega)) (V6 Z (B2 Z Z Z) (V6 Z (B1 Z) (V6 Z (B2 Z Z Z) (V6 Z (D5 Z Z (by omega)) (pO (bB TySz.out Z Z Z Z Z Z) (pO (bB TySz.out Z Z Z Z Z Z) ?_))))))))));refine LP rfl ?_ ?_
  ·refine j4 Z Z (B2 Z Z Z) (j4 Z Z (B1 Z) (j4 Z Z (B2 Z Z Z) (j4 Z Z (D5 Z Z (by omega)) ?_)));exact LQ
  refine k4 (k1 ?_);refine A7 (A6 (D5 Z Z (by omega)) Z (A6 (A8 Z Z) Z (B0 ?_)));refine k1 ?_;have E:=X5 i j n;have H:max i c.Old=i+n:=by omega
  rw[H]at q;exact⟨(k+1,i+n+c.OldLen,j+n+c.NewLen,d++N9 i j n),⟨by dsimp only;omega,by dsimp only;omega,by dsimp only;rw[WX,E];omega,by dsimp only;omega,by dsimp only;omega,by dsimp only;omega,by dsimp only;rw[XH];exact q⟩,by dsimp only;omega,Sees.of ⟨B4 rfl,B4 rfl,B4 rfl,B4 rfl,B4 rfl,B4 rfl,B4 rfl,B4 rfl,trivial⟩ ⟨rfl,rfl,rfl,rfl,trivial⟩⟩
 ·have C:k=l.length:=by have:=A1 F;omega
  rw[C,XO (Nat.le_refl _),T4]at q;refine k6 (k2 ?_);refine A7 (A6 (A8 Z Z) Z (A6 (A8 Z Z) Z (jH (oG m i j d (by omega) A (by omega) D Z Z Z Z) Z Z Z Z ?_)));rintro _ _ ⟨rfl,rfl⟩;refine B0 ?_;refine k1 (k2 ?_);rw[q];refine G8 (Sees.forget 20) ?_;refine A7 (A6 (B2 Z Z Z) Z (A6 (A9 Z Z) Z (B0 ?_)));refine k1 (I9 ?_);exact C2 (J5 rfl rfl rfl) rfl
theorem mZ{l:List Change}{m n:Int}(a:ScOk 0 0 l m n):∀c∈l,c.Old<=4096/\0<=c.OldLen/\c.OldLen<=4096/\0<=c.NewLen/\c.NewLen<=4096:=by
 intro c j;obtain⟨k,b,rfl⟩:=List.mem_iff_getElem.1 j;have:=a.get k b;have e:J7 l k=l[k]:=by unfold J7;simp[b]
 rw[e]at this;obtain⟨⟨_,d⟩,⟨f,g⟩,_,⟨h,i⟩,_⟩:=this;exact⟨d,f,g,h,i⟩
theorem oH{l:List Change}{m n:Int}(d:m<=4096)(a:ScOk 0 0 l m n):(R1 l m).length<=4096:=by
 have:=nD l 0 0 m (by omega) 4096 (by omega) (fun c b=>⟨by have:=(mZ a c b).1;omega,(mZ a c b).2.1⟩);unfold R1;omega
set_option maxHeartbeats 2000000
theorem vC(x y:List Str)(l:List Change)(m n:Int)(j:m=x.length)(k:n=y.length)(i:l.length<=32768)(a:ScFit x y l):FnOk Tryz.prog 220 [pChanges l,E8 m,E8 n] (fun rs=>rs=[pSpans (R1 l x.length),E8 0]):=by
 subst j k;have f:=a.check;obtain⟨⟨_,ha⟩,⟨_,hb⟩,c⟩:=nF f;have b:=mZ c;have d:=IQ l x.length y.length (by omega);rw[f]at d;have e:=IU l x.length i ha b;obtain⟨M,h⟩:∃M,M=R1 l x.length:=⟨_,rfl⟩
 rw[<-h]at e ⊢;refine FnOk.intro Tryz.func220 (by decide) Z Z Z Z ?_;refine k2 ?_;refine A7 (A6 (J1 _ 2 spanC) Z (A6 (A9 Z Z) Z (B0 ?_)));refine k1 (k2 (k2 ?_));refine A7 (A6 (A8 Z Z) Z (A6 (A8 Z Z) Z (A6 (A8 Z Z) Z (D1 (d) Z Z Z ?_))));rintro _ rfl;refine A6 (A9 Z Z) Z (B0 ?_);refine k1 (k2 ?_);refine A7 (A6 (A8 Z Z) Z (A6 (N5 Z Z) Z (B0 ?_)));refine k1 ?_;refine B9 rfl (fun g=>?_) (fun g=>?_)
 ·exact absurd rfl (A0 g)
 refine k5 (k1 (k2 ?_));refine A7 (A6 (A8 Z Z) Z (A6 (A8 Z Z) Z (D1 (e) Z Z Z ?_)));rintro _ rfl;refine A6 (A9 Z Z) Z (A6 (A9 Z Z) Z (B0 ?_));refine k1 (I9 ?_);exact C2 (rs:=[pSpans M,E8 0]) (U1 rfl rfl rfl rfl rfl) rfl
theorem GM(x y:List Str):([x,y].map (K3 (F9 [x,y])))=[K3 (F9 [x,y]) x,K3 (F9 [x,y]) y]:=rfl
theorem vD{a b:Str}(ha:Few a)(hb:Few b):[D4 a,D4 b].flatten.length<=536870911:=by
 have c:=ha.2;have d:=hb.2;simp only[YI,List.flatten_nil,YB,WX];omega
theorem lG{x y:List Str}(a:x.length<=4096):(P1 x y).length<=32768:=by have:=yH x y;omega
theorem xV(old now:Str)(R:Few old)(Q:Few now):FnOk Tryz.prog 153 [I3 old,I3 now] (fun rs=>rs=[O6 (Z4 (D4 old) (D4 now))]):=by
 have ah:=R.1;have ag:=Q.1;have hx:=R.2;have hy:=Q.2;have z:=gN old (by omega);have C:=gN now (by omega);rw[bP R]at z;rw[bP Q]at C;obtain⟨x,O⟩:∃x,x=D4 old:=⟨_,rfl⟩
 obtain⟨y,P⟩:∃y,y=D4 now:=⟨_,rfl⟩
 have V:=lF [x,y] (by simp) (by rw[O,P];exact vD R Q);rw[GM]at V;rw[<-O]at hx z ⊢;rw[<-P]at hy C ⊢;have ac:(K3 (F9 [x,y]) x).length=x.length:=by simp[K3]
 have G:(K3 (F9 [x,y]) y).length=y.length:=by simp[K3]
 have Y:=rI (K3 (F9 [x,y]) x) (K3 (F9 [x,y]) y) (by omega) (by omega);have f:=jW x y hx hy;have W:=vC x y (P1 x y) x.length y.length rfl rfl (lG hx) f;have E:=f.pairs;obtain⟨A,T⟩:∃A,A=K3 (F9 [x,y]) x:=⟨_,rfl⟩
 obtain⟨B,U⟩:∃B,B=K3 (F9 [x,y]) y:=⟨_,rfl⟩
 obtain⟨S,j⟩:∃S,S=P1 x y:=⟨_,rfl⟩
 have L:jR A B=S:=by rw[j,T,U];rfl
 obtain⟨b,d⟩:∃b,b=R1 S x.length:=⟨_,rfl⟩
 have af:b.length<=4096:=by
  rw[d,j];obtain⟨⟨_,ha⟩,⟨_,hb⟩,ae⟩:=nF f.check;exact oH (by omega) ae
 have q:Z4 x y=aR b (List.replicate y.length (-1)) b.length:=by rw[tB,d,j];rfl
 rw[<-T,<-U]at V Y;rw[L]at Y;rw[<-j]at W E;rw[<-d]at W E;rw[q];clear q L d j T U ac G;refine FnOk.intro Tryz.func153 (by decide) Z Z Z Z ?_;refine k2 ?_;refine A7 (A6 (J1 _ 1 G1) Z (B0 ?_));refine k1 (k2 ?_);refine A7 (A6 (A8 Z Z) Z (D1 (z) Z Z Z ?_));rintro _ rfl;refine A6 (A8 Z Z) Z (A6 (B7 Z Z) Z (A6 (B7 Z Z) Z (A6 (A9 Z Z) Z (A6 (A9 Z Z) Z (B0 ?_)))));refine k1 (k2 ?_);refine A7 (A6 (A8 Z Z) Z (D1 (C) Z Z Z ?_));rintro _ rfl;refine A6 (A8 Z Z) Z (A6 (B7 Z Z) Z (A6 (B7 Z Z) Z (A6 (A9 Z Z) Z (A6 (A9 Z Z) Z (B0 ?_)))));refine k1 (k2 ?_);refine A7 (A6 (A8 Z Z) Z (A6 (A8 Z Z) Z (A6 (D9 (c:=strsC) (ys:=[x,y]) (D8 Z Z Z Z (D8 Z Z Z Z H5)) Z Z Z) Z (D1 (V) Z Z Z ?_))));rintro _ rfl;refine A6 (A9 Z Z) Z (B0 ?_);refine k1 (k2 ?_);refine D7 (by kernel_rfl) (by kernel_rfl) (B3 (A8 Z Z) Z Z (B3 (B8 Z (.pure _ _ _ _) Z (by omega) (show [A,B][(0:Int).toNat]?=some A from Z)) Z Z (B3 (C0 Z Z) Z Z (B3 (A8 Z Z) Z Z (B3 (B8 Z (.pure _ _ _ _) Z (by omega) (show [A,B][(1:Int).toNat]?=some B from Z)) Z Z (B3 (C0 Z Z) Z Z (B3 (I4 (Y) Z Z) Z Z (B3 (A8 Z Z) Z Z (B3 (B7 Z Z) Z Z (B3 (B7 Z Z) Z Z (B3 (A9 Z Z) Z Z (B3 (A9 Z Z) Z Z (M5 ?_)))))))))))));refine k1 (k2 ?_);refine A7 (A6 (A8 Z Z) Z (A6 (A8 Z Z) Z (A6 (F0 Z (.pure _ _ _ _)) Z (A6 (A8 Z Z) Z (A6 (F0 Z (.pure _ _ _ _)) Z (D1 (W) Z Z Z ?_))))));rintro _ rfl;refine A6 (A8 Z Z) Z (A6 (B7 Z Z) Z (A6 (B7 Z Z) Z (A6 (A9 Z Z) Z (A6 (A9 Z Z) Z (B0 ?_)))));refine k1 (k2 ?_);refine A7 (A6 (A8 Z Z) Z (A6 (F0 Z (.pure _ _ _ _)) Z (D6 (aZ 751 Int G1 0 Z Z (by ((try dsimp only);omega)) (by ((try dsimp only);omega)) (fun _=>by first | exact⟨⟨rfl,rfl⟩,trivial⟩ | exact⟨I5 _ _ _,trivial⟩ | exact⟨I5 _ _ _,⟨rfl,rfl⟩,I5 _ _ _,trivial⟩ | exact⟨⟨rfl,rfl⟩,⟨rfl,rfl⟩,trivial⟩) (by first | rfl | (simp[I2,M9,Ob.free,SV.free,S1.free,TC.free]<;>rfl))) Z ?_)));refine A6 (A9 Z Z) Z (B0 ?_);rw[WV];refine k1 (k2 (k2 ?_));refine A7 (A6 (A8 Z Z) Z (A6 (cP Z Z) Z (A6 (A8 Z Z) Z (B0 ?_))));refine k1 (k3 ?_);refine E4 (X:=Nat) (fun i=>([(12,E3 Span 2 spanC b),(14,.s (.one (.mut 751))),(55,C7 y.length),(56,C7 i)],[(751,.arr Int 1 G1 (gE y.length i))])) (fun i=>i<=y.length) (fun i=>y.length-i) 0 (Nat.zero_le _) (by dsimp only;rw[sZ];exact (Sees.of ⟨B4 rfl,B4 rfl,TI Z (by first | (simp;done) | (simp;omega)),B4 rfl,trivial⟩ ⟨rfl,trivial⟩)) ?_;intro i hi;dsimp only at hi ⊢;have H:=wI hi;refine k2 ?_;refine A7 (A6 (F3 Z Z) Z (B0 ?_));refine k1 (k2 ?_);refine B9 rfl (fun F=>?_) (fun F=>?_)
 ·have D:i<y.length:=by have v:=A0 F;(try dsimp only at v);omega
  have K:=wJ D;refine k5 (k1 (k2 (k3 (k2 ?_))));refine A7 (A6 (A8 Z Z) Z (A6 (A9 Z Z) Z (B0 ?_)));refine k1 ?_;refine A7 (A6 (A8 Z Z) Z (A6 (A8 Z Z) Z (A6 (E2 Z Z Z (by omega) (by (rw[H];omega))) Z ?_)));refine F7 (J8 TySz.out Z Z (by (rw[H];omega)) Z Z) ?_;refine B0 ?_;rw[WV,K];refine k4 (k1 ?_);refine A7 (A6 (D5 Z Z (by omega)) Z (A6 (A8 Z Z) Z (B0 ?_)));refine k1 ?_;exact⟨i+1,by omega,by omega,Sees.of ⟨B4 rfl,B4 rfl,B4 rfl,B4 rfl,trivial⟩ ⟨rfl,trivial⟩⟩
 have ab:i=y.length:=by have v:=A1 F;(try dsimp only at v);omega
 rw[ab,wK];obtain⟨o,I⟩:∃o,o=List.replicate y.length (-1:Int):=⟨_,rfl⟩
 have J:o.length=y.length:=by rw[I,XT]
 rw[<-I];refine k6 (k2 (k2 ?_));refine A7 (A6 (A8 Z Z) Z (A6 (F0 Z (.pure _ _ _ _)) Z (A6 (A8 Z Z) Z (B0 ?_))));refine k1 (k3 ?_);refine E4 (X:=Nat) (fun k=>([(14,.s (.one (.mut 751))),(63,E3 Span 2 spanC b),(64,C7 b.length),(65,C7 k)],[(751,.arr Int 1 G1 (aR b o k))])) (fun k=>k<=b.length) (fun k=>b.length-k) 0 (Nat.zero_le _) (Sees.of ⟨B4 rfl,B4 rfl,B4 rfl,B4 rfl,trivial⟩ ⟨rfl,trivial⟩) ?_;intro k hk;dsimp only at hk ⊢;have M:=tA b o k;refine k2 ?_;refine A7 (A6 (F3 Z Z) Z (B0 ?_));refine k1 (k2 ?_);refine B9 rfl (fun F=>?_) (fun F=>?_)
 ·have D:k<b.length:=by have v:=A0 F;(try dsimp only at v);omega
  obtain⟨p,hp⟩:∃p,p=b[k]:=⟨_,rfl⟩
  have hv:b[k]?=some p:=by rw[hp];exact WT D
  obtain⟨_,p2,w,_,p4⟩:=E p (XL hv);obtain⟨p5,_⟩:=List.getElem?_eq_some_iff.1 p4;have hs:=gF (o:=o) hv;refine k5 (k1 (k2 (k3 (k2 ?_))));refine A7 (A6 (B8 Z (.pure _ _ _ _) Z (by omega) hv) Z (A6 (G7 Z Z) Z (D6 (I1 17 Z) Z (F7 (C1 TySz.out Z Z Z Z Z Z) (B0 ?_)))));refine k1 ?_;refine A7 (A6 (A8 Z Z) Z (A6 (B1 Z) Z (A6 (B2 Z Z Z) Z (A6 (B1 Z) Z (A6 (B2 Z Z Z) Z (A6 (E2 Z Z Z (by omega) (by (rw[M,J];omega))) Z ?_))))));refine F7 (J8 TySz.out Z Z (by (rw[M,J];omega)) Z Z) ?_;refine B0 ?_;rw[<-hs];refine k4 (k1 ?_);refine A7 (A6 (D5 Z Z (by omega)) Z (A6 (A8 Z Z) Z (B0 ?_)));refine k1 ?_;exact⟨k+1,by omega,by omega,Sees.of ⟨B4 rfl,B4 rfl,B4 rfl,B4 rfl,trivial⟩ ⟨rfl,trivial⟩⟩
 have ad:k=b.length:=by have v:=A1 F;(try dsimp only at v);omega
 rw[ad];refine G8 (Sees.freeze (k:=751) Z) ?_;refine k6 (k2 ?_);refine A7 (A6 (A8 Z Z) Z (A6 (A9 Z Z) Z (B0 ?_)));refine k1 (I9 ?_);exact C2 (rs:=[O6 (aR b o b.length)]) (J5 rfl rfl rfl) rfl
def IV(i:Int):Value:=.int .i64 i
theorem rJ(a:Int):MapKept.IsKey (.int .i64) (IV a):=rfl
theorem rK(a b:Int)(h:IV a=IV b):a=b:=by
 simp only[IV,Value.int.injEq]at h;exact h.2
theorem IW{k:Nat}{a:List Nat}{gf:Fr}{α:Type}{ec:Nat}{c:α->Nat->Cell}{xs:List α}(b:N3 a k=true):Tail (D2 a gf) (WB (SV.freeze k α ec c xs) (D2 a gf)):=by
 rw[HY (jL (cA b))];exact C3
theorem AR{k:Nat}{α:Type}{a:Nat}{c:α->Nat->Cell}{b:List α}(o:Ob):(o.forget k).freeze k α a c b=o.forget k:=by
 have h:∀t:TC,(t.forget k).freeze k α a c b=t.forget k:=fun t=>TC.freeze_free (TC.free_forget k t);cases o<;>simp[Ob.forget,Ob.freeze,h]
theorem MR{K f:List Nat}{ob:Obs}{k:Nat}{α:Type}{ec:Nat}{c:α->Nat->Cell}{xs:List α}(h:N3 f k=true)(g:C5 ob k=none) :
  ∀j x,N3 K j=false->C5 (G4 f ob) j=some x->C5 (VY (Ob.freeze k α ec c xs) (Obs.drop k (G4 f ob))) j=some x:=by
 intro j x _ a;have d:j≠k:=by
  rintro rfl;rw[N0 g]at a;cases a
 rw[getO_mapO,O4 d,a];have b:=a;rw[<-cE h,L0,a]at b;have e:Ob.forget k x=x:=Option.some.inj b;show some (Ob.freeze k α ec c xs x)=some x;rw[<-e,AR]
abbrev rL:S1:=.one (.ref 820 0)
abbrev lH(g:Graph)(path:Str):Ob:=.box [.p (.list Commit 3 H3 g),.p (.v (.string ⟨path.toArray⟩)),.mut 821]
abbrev GO(b:List (Int×Cell)):Ob:=.map Int IV b
theorem DY(g:Graph)(c:Nat)(d b:Str)(h:FewT g)(y:r8 g c=0)(D:F5 (E0 g c) d=some b)(hb:Few b) :
  AL.Met Tryz.prog 49 [.one (.p (.list Commit 3 H3 g)),.one (.p (.v (.int .i64 c))),.one (.p (.v (.string ⟨d.toArray⟩)))] [] [] [] (fun rs ob'=>rs=[rL,.one (.p (.v (.int .i64 (D4 b).length))),.one (.p (.v (.int .i64 0)))]/\ob'=[(820,lH g d),(821,GO [])]):=by
 obtain⟨I,_,H⟩:=u5 y;have q:c<g.length:=by omega
 have G:N1 g=0:=by
  unfold r8 at y;split at y
  ·assumption
  ·rename_i E;exact Decidable.not_not.1 E
 have z:=gO g h;rw[G]at z;have B:=mY g c;rw[A2 (show T6 g (c:Int) from⟨by omega,by omega⟩)]at B;obtain⟨k,w⟩:∃k,k=g[c]:=⟨_,rfl⟩
 have j:g[((c:Nat):Int).toNat]?=some k:=by rw[w];simp[q]
 have x:E0 g c=k.Files:=j7 (by rw[WV]at j;exact j);have m:(E0 g c).length<=1073741824:=(h.files c).len;rw[x]at m D;have A:=aL k.Files d m;rw[D]at A;have F:=hb.1;have C:=gN b (by omega);rw[bP hb]at C;refine AL.Met.intro Tryz.func49 (by decide) Z Z Z ?_;refine k2 ?_;refine A7 (A6 (A9 Z Z) Z (A6 (A9 Z Z) Z (A6 (A9 Z Z) Z (B0 ?_))));refine k1 (k2 (k2 ?_));refine A7 (A6 (A8 Z Z) Z (D1 (z) Z Z Z ?_));rintro _ rfl;refine A6 (A9 Z Z) Z (B0 ?_);refine k1 (k2 ?_);refine A7 (A6 (A8 Z Z) Z (A6 (N5 Z Z) Z (B0 ?_)));refine k1 ?_;refine B9 rfl (fun f=>?_) (fun f=>?_)
 ·exact absurd rfl (A0 f)
 refine k5 (k1 (k2 (k2 ?_)));refine A7 (A6 (A8 Z Z) Z (A6 (A8 Z Z) Z (D1 (B) Z Z Z ?_)));rintro _ rfl;refine A6 (N2 Z) Z (B0 ?_);refine k1 ?_;refine B9 rfl (fun f=>?_) (fun f=>?_)
 ·cases f
 refine k5 (k1 (k2 ?_));refine A7 (A6 (A8 Z Z) Z (A6 (A8 Z Z) Z (A6 (B8 Z (.pure _ _ _ _) Z (by omega) j) Z (A6 (C9 Z) Z (A6 (C0 Z Z) Z (A6 (A8 Z Z) Z (D1 (A) Z Z Z ?_)))))));rintro _ rfl;refine A6 (A8 Z Z) Z (A6 (B7 Z Z) Z (A6 (B7 Z Z) Z (A6 (A9 Z Z) Z (A6 (A9 Z Z) Z (B0 ?_)))));refine k1 (k2 (k2 ?_));refine A7 (A6 (A8 Z Z) Z (A6 (N2 Z) Z (B0 ?_)));refine k1 ?_;refine B9 rfl (fun f=>?_) (fun f=>?_)
 ·cases f
 refine k5 (k1 (k2 ?_));refine A7 (A6 (A8 Z Z) Z (D1 (C) Z Z Z ?_));rintro _ rfl;refine A6 (A8 Z Z) Z (A6 (B7 Z Z) Z (A6 (B7 Z Z) Z (A6 (A9 Z Z) Z (A6 (A9 Z Z) Z (B0 ?_)))));refine k1 (k2 ?_);refine A7 (A6 (A8 Z Z) Z (A6 (A8 Z Z) Z (D6 (mV 821 Int IV Z) Z (A6 (H1 Z) Z (D6 (j1 820 Z Z Z) Z (A6 (A8 Z Z) Z (A6 (F0 Z (.pure _ _ _ _)) Z (A6 (A9 Z Z) Z (A6 (A9 Z Z) Z (A6 (A9 Z Z) Z (B0 ?_)))))))))));refine k1 (I9 ?_);exact I6 (TH rfl rfl rfl rfl) (by repeat (first | exact C3 | refine tail_drop rfl ?_ | refine C4 rfl ?_)) (fun _ _ h=>h) ⟨rfl,rfl⟩
theorem xW{gf:Fr}{ob:Obs}(g:Graph)(path now:Str)(c:Nat)(q:List (Int×Cell))(h:FewT g)(U:GB g)(T:c<g.length)(W:F5 (E0 g c) path=some now)(hk:KnownOk g path q)
  (h0:C5 ob 820=some (lH g path)) (G:C5 ob 821=some (GO q)) (h2:C5 ob 822=none) :
  AL.Met Tryz.prog 97 [rL,.one (.p (.v (.int .i64 c)))] gf ob [821,822] (fun rs ob'=>rs=[.one (.p (mJ (x5 g path c)))]/\∃F,KnownOk g path F/\ob'=(820,lH g path)::(821,GO F)::G4 [821,822] ob):=by
 obtain⟨b,A⟩:∃b,b=g[c]:=⟨_,rfl⟩
 have C:g[((c:Nat):Int).toNat]?=some b:=by rw[A];simp[T]
 have M:E0 g c=b.Files:=j7 (by rw[WV]at C;exact C);have ad:E1 g c=b.Parents:=by rw[X8 T,A]
 have z:(E0 g c).length<=1073741824:=(h.files c).len;have O:=d5 U W;have hpr:=(U.pars b (by rw[A];exact WY T)).2;have ae:=(U.pars b (by rw[A];exact WY T)).1;have hF:=aL b.Files path (by rw[<-M];exact z);have K:=W;rw[M]at K;rw[K]at hF;have hS:x5 g path c=a8 g path now b.Parents:=by unfold x5 Q7;rw[W,ad];rfl
 refine AL.Met.introH Tryz.func97 (by decide) rfl rfl rfl (fun I=>?_);refine G8 (VZ 821 (l:=[(0,.s rL),(1,C7 c)]) (L:=[(820,_),(821,_)]) ⟨B4 rfl,B4 rfl,trivial⟩ I (by repeat (first | exact C3 | refine C4 rfl ?_)) ⟨h0,G,trivial⟩) ?_;refine G8 (Sees.forget 822) ?_;refine G8 (VW (gf':=D2 [821,822] gf) (l:=[(0,.s rL),(1,C7 c)]) (ob':=[(820,lH g path),(821,GO q)]++G4 [821,822] ob) ⟨B4 rfl,B4 rfl,trivial⟩ (G5 I) (by repeat (first | exact C3 | refine tail_drop rfl ?_ | refine C4 rfl ?_ | refine I7 _ rfl ?_)) (G9 (L:=[(820,_),(821,_)]) ⟨rfl,rfl,trivial⟩ (by repeat (first | exact F6 | refine G3 rfl ?_ | refine L8 _ rfl ?_)))) ?_;have Y:C5 (G4 [821,822] ob) 822=none:=N0 h2;cases B:L6 q (c:Int) with
 | some cl =>
  have z:=hk.get B;rw[WV]at z;subst z;refine k2 ?_;refine A7 (A6 (J1 _ 2 CD) Z (B0 ?_));refine k1 (k2 (k2 ?_));refine A7 (A6 (A8 Z Z) Z (A6 (B5 Z) Z (A6 (B1 Z) Z (A6 (B2 Z Z Z) Z (A6 (A8 Z Z) Z (A6 (fH ((c:Int)) (r:=some (mJ (x5 g path c))) Z Z Z rJ rK (B)) Z (A6 (A8 Z Z) Z (A6 (B7 Z Z) Z (A6 (B7 Z Z) Z (A6 (A9 Z Z) Z (A6 (A9 Z Z) Z (B0 ?_))))))))))));refine k1 (k2 ?_);refine A7 (A6 (A8 Z Z) Z (B0 ?_));refine k1 ?_;refine B9 rfl (fun f=>?_) (fun f=>?_);rotate_left
  ·cases f
  refine k2 ?_;refine A7 (A6 (A8 Z Z) Z (A6 (A9 Z Z) Z (B0 ?_)));refine k1 (I9 (N4 ?_));exact I6 (X2 rfl rfl) (by repeat (first | exact C3 | refine tail_drop rfl ?_ | refine C4 rfl ?_ | refine I7 _ rfl ?_)) (G9 (L:=[(820,_),(821,_)]) ⟨rfl,rfl,trivial⟩ (by repeat (first | exact F6 | refine G3 rfl ?_ | refine L8 _ rfl ?_))) ⟨rfl,q,hk,rfl⟩
 | none =>
  have E:=KH hk (c:Int);rw[WV,hS]at E;rw[hS];refine k2 ?_;refine A7 (A6 (J1 _ 2 CD) Z (B0 ?_));refine k1 (k2 (k2 ?_));refine A7 (A6 (A8 Z Z) Z (A6 (B5 Z) Z (A6 (B1 Z) Z (A6 (B2 Z Z Z) Z (A6 (A8 Z Z) Z (A6 (fH ((c:Int)) (r:=none) Z Z Z rJ rK (B)) Z (A6 (A8 Z Z) Z (A6 (B7 Z Z) Z (A6 (B7 Z Z) Z (A6 (A9 Z Z) Z (A6 (A9 Z Z) Z (B0 ?_))))))))))));refine k1 (k2 ?_);refine A7 (A6 (A8 Z Z) Z (B0 ?_));refine k1 ?_;refine B9 rfl (fun f=>?_) (fun f=>?_)
  ·cases f
  refine k5 (k1 (k2 ?_));refine D7 (by kernel_rfl) (by kernel_rfl) (B3 (A8 Z Z) Z Z (B3 (B5 Z) Z Z (B3 (B1 Z) Z Z (B3 (B2 Z Z Z) Z Z (B3 (A8 Z Z) Z Z (B3 (B8 Z (.pure _ _ _ _) Z (by omega) C) Z Z (B3 (C9 Z) Z Z (B3 (C0 Z Z) Z Z (B3 (A8 Z Z) Z Z (B3 (B5 Z) Z Z (B3 (B1 Z) Z Z (B3 (B2 Z Z Z) Z Z (B3 (I4 (hF) Z Z) Z Z (B3 (A8 Z Z) Z Z (B3 (B7 Z Z) Z Z (B3 (B7 Z Z) Z Z (B3 (A9 Z Z) Z Z (B3 (A9 Z Z) Z Z (M5 ?_)))))))))))))))))));refine k1 (k2 ?_);refine A7 (D6 (LX 822 _ CD Y Z) Z (B0 ?_));refine k1 (k2 (k2 ?_));refine A7 (A6 (A8 Z Z) Z (A6 (B5 Z) Z (A6 (B1 Z) Z (A6 (B2 Z Z Z) Z (A6 (A8 Z Z) Z (A6 (B8 Z (.pure _ _ _ _) Z (by omega) C) Z (A6 (C9 Z) Z (A6 (C0 Z Z) Z (A6 (F0 Z (.pure _ _ _ _)) Z (A6 (A8 Z Z) Z (B0 ?_)))))))))));refine k1 (k3 ?_);refine E4 (X:=Nat) (fun i=>([(0,.s rL),(1,C7 c),(7,P2 now),(9,.s (.one (.mut 822))),(48,E3 Int 1 G1 b.Parents),(49,C7 b.Parents.length),(50,C7 i)]++D2 [821,822] gf,[(820,lH g path),(821,GO q),(822,.grow 181 Src 2 CD (gG g path now b.Parents i))]++G4 [821,822] ob)) (fun i=>i<=b.Parents.length) (fun i=>b.Parents.length-i) 0 (Nat.zero_le _) ?_ ?_
  ·exact VW ⟨B4 rfl,B4 rfl,B4 rfl,B4 rfl,B4 rfl,B4 rfl,B4 rfl,trivial⟩ (G5 I) (by repeat (first | exact C3 | refine tail_drop rfl ?_ | refine C4 rfl ?_ | refine I7 _ rfl ?_)) (G9 (L:=[(820,_),(821,_),(822,_)]) ⟨rfl,rfl,rfl,trivial⟩ (by repeat (first | exact F6 | refine G3 rfl ?_ | refine L8 _ rfl ?_)))
  intro i hi;dsimp only at hi ⊢;have af:(gG g path now b.Parents i).length<=3:=by
   have G:=nV (g:=g) (path:=path) (now:=now) (b.Parents.take i);rw[XG]at G;unfold gG;omega
  refine k2 ?_;refine A7 (A6 (F3 Z Z) Z (B0 ?_));refine k1 (k2 ?_);refine B9 rfl (fun f=>?_) (fun f=>?_);rotate_left
  ·have ab:i=b.Parents.length:=by have G:=A1 f;(try dsimp only at G);omega
   have J:gG g path now b.Parents i=a8 g path now b.Parents:=by rw[ab];unfold gG;rw[XF]
   rw[J];refine G8 (Sees.freezeG (k:=822) (α:=Src) (ec:=2) (c:=CD) (xs:=a8 g path now b.Parents) (e:=181) Z Z) ?_;refine k6 (k2 ?_);refine A7 (A6 (A8 Z Z) Z (A6 (B5 Z) Z (A6 (B1 Z) Z (A6 (B2 Z Z Z) Z (A6 (A8 Z Z) Z (A6 (A8 Z Z) Z (F7 (qP ((c:Int)) Z Z Z Z Z rJ rK (B)) (B0 ?_))))))));refine k1 (k2 ?_);refine A7 (A6 (A8 Z Z) Z (A6 (A9 Z Z) Z (B0 ?_)));refine k1 (I9 ?_);exact I6 (X2 rfl rfl) (by repeat (first | exact C3 | refine tail_drop rfl ?_ | refine C4 rfl ?_ | refine I7 _ rfl ?_ | exact IW rfl)) (G9 (L:=[(820,_),(821,_)]) ⟨rfl,rfl,trivial⟩ (by repeat (first | exact F6 | refine G3 rfl ?_ | refine L8 _ rfl ?_ | exact MR rfl h2))) ⟨rfl,_,E,rfl⟩
  have P:i<b.Parents.length:=by have G:=A0 f;(try dsimp only at G);omega
  have ac:=hpr _ (WY P);obtain⟨p,hp⟩:∃p:Nat,b.Parents[i]=(p:Int):=⟨b.Parents[i].toNat,by omega⟩
  rw[hp]at ac;have D:b.Parents[i]?=some (p:Int):=by rw[WT P,hp]
  have R:p<g.length:=by omega
  obtain⟨S,hpm⟩:∃S,S=g[p]:=⟨_,rfl⟩
  have j:g[((p:Nat):Int).toNat]?=some S:=by rw[hpm];simp[R]
  have H:E0 g p=S.Files:=j7 (by rw[WV]at j;exact j);have Q:(E0 g p).length<=1073741824:=(h.files p).len;have y:=aL S.Files path (by rw[<-H];exact Q);cases x:F5 (E0 g p) path with
  | none =>
   have V:=FI (g:=g) (path:=path) (now:=now) D (by rw[WV];exact x);have d:=x;rw[H]at d;rw[d]at y;refine k5 (k1 (k2 (k3 (k2 ?_))));refine A7 (A6 (B8 Z (.pure _ _ _ _) Z (by omega) D) Z (A6 (C0 Z Z) Z (A6 (A9 Z Z) Z (B0 ?_))));refine k1 (k2 ?_);refine D7 (by kernel_rfl) (by kernel_rfl) (B3 (A8 Z Z) Z Z (B3 (B5 Z) Z Z (B3 (B1 Z) Z Z (B3 (B2 Z Z Z) Z Z (B3 (A8 Z Z) Z Z (B3 (B8 Z (.pure _ _ _ _) Z (by omega) j) Z Z (B3 (C9 Z) Z Z (B3 (C0 Z Z) Z Z (B3 (A8 Z Z) Z Z (B3 (B5 Z) Z Z (B3 (B1 Z) Z Z (B3 (B2 Z Z Z) Z Z (B3 (I4 (y) Z Z) Z Z (B3 (A8 Z Z) Z Z (B3 (B7 Z Z) Z Z (B3 (B7 Z Z) Z Z (B3 (A9 Z Z) Z Z (B3 (A9 Z Z) Z Z (M5 ?_)))))))))))))))))));refine k1 (k2 ?_);refine A7 (A6 (A8 Z Z) Z (B0 ?_));refine k1 ?_;refine B9 rfl (fun f=>?_) (fun f=>?_)
   ·cases f
   refine k5 (k4 (k1 ?_));refine A7 (A6 (D5 Z Z (by omega)) Z (A6 (A8 Z Z) Z (B0 ?_)));refine k1 ?_;refine⟨i+1,by omega,by omega,?_⟩;rw[V];exact VW ⟨B4 rfl,B4 rfl,B4 rfl,B4 rfl,B4 rfl,B4 rfl,B4 rfl,trivial⟩ (G5 I) (by repeat (first | exact C3 | refine tail_drop rfl ?_ | refine C4 rfl ?_ | refine I7 _ rfl ?_)) (G9 (L:=[(820,_),(821,_),(822,_)]) ⟨rfl,rfl,rfl,trivial⟩ (by repeat (first | exact F6 | refine G3 rfl ?_ | refine L8 _ rfl ?_)))
  | some old =>
   have V:=FH (g:=g) (path:=path) (now:=now) D (by rw[WV];exact x);have hP:=xV old now (d5 U x) O;obtain⟨L,hL⟩:∃L,L=Z4 (D4 old) (D4 now):=⟨_,rfl⟩
   rw[<-hL]at hP V;have d:=x;rw[H]at d;rw[d]at y;refine k5 (k1 (k2 (k3 (k2 ?_))));refine A7 (A6 (B8 Z (.pure _ _ _ _) Z (by omega) D) Z (A6 (C0 Z Z) Z (A6 (A9 Z Z) Z (B0 ?_))));refine k1 (k2 ?_);refine D7 (by kernel_rfl) (by kernel_rfl) (B3 (A8 Z Z) Z Z (B3 (B5 Z) Z Z (B3 (B1 Z) Z Z (B3 (B2 Z Z Z) Z Z (B3 (A8 Z Z) Z Z (B3 (B8 Z (.pure _ _ _ _) Z (by omega) j) Z Z (B3 (C9 Z) Z Z (B3 (C0 Z Z) Z Z (B3 (A8 Z Z) Z Z (B3 (B5 Z) Z Z (B3 (B1 Z) Z Z (B3 (B2 Z Z Z) Z Z (B3 (I4 (y) Z Z) Z Z (B3 (A8 Z Z) Z Z (B3 (B7 Z Z) Z Z (B3 (B7 Z Z) Z Z (B3 (A9 Z Z) Z Z (B3 (A9 Z Z) Z Z (M5 ?_)))))))))))))))))));refine k1 (k2 ?_);refine A7 (A6 (A8 Z Z) Z (B0 ?_));refine k1 ?_;refine B9 rfl (fun f=>?_) (fun f=>?_);rotate_left
   ·cases f
   skip;refine A7 (A6 (A8 Z Z) Z (A6 (A8 Z Z) Z (A6 (A8 Z Z) Z (A6 (A8 Z Z) Z (D1 (hP) Z Z Z ?_)))));rintro _ rfl;refine A6 (H1 Z) Z (A6 (D9 (c:=CD) (ys:=[(((p:Nat):Int),L)]) (D8 Z Z Z Z H5) Z Z Z) Z (D6 (aG Z Z Z (.pure _ _ _ _) (by (simp only[WW,XD];omega)) Z) Z (A6 (A9 Z Z) Z (B0 ?_))));refine k4 (k1 ?_);refine A7 (A6 (D5 Z Z (by omega)) Z (A6 (A8 Z Z) Z (B0 ?_)));refine k1 ?_;refine⟨i+1,by omega,by omega,?_⟩;rw[V];exact VW ⟨B4 rfl,B4 rfl,B4 rfl,B4 rfl,B4 rfl,B4 rfl,B4 rfl,trivial⟩ (G5 I) (by repeat (first | exact C3 | refine tail_drop rfl ?_ | refine C4 rfl ?_ | refine I7 _ rfl ?_)) (G9 (L:=[(820,_),(821,_),(822,_)]) ⟨rfl,rfl,rfl,trivial⟩ (by repeat (first | exact F6 | refine G3 rfl ?_ | refine L8 _ rfl ?_)))
abbrev PC(a:Int×Int):S1:=.agg [.p (.v (.int .i64 a.1)),.p (.v (.int .i64 a.2))]
theorem vE{gf:Fr}{ob:Obs}(g:Graph)(path v:Str)(a:Int×Int)(A:List (Int×Cell))(h:FewT g)(hg:GB g)(hl:LineAt g path v a)(hk:KnownOk g path A)
  (h0:C5 ob 820=some (lH g path)) (G:C5 ob 821=some (GO A)) (h2:C5 ob 822=none) (h3:C5 ob 823=none) (h4:C5 ob 824=none) :
  AL.Met Tryz.prog 50 [rL,PC a] gf ob [821,822,823,824] (fun rs ob'=>rs=[PC ((f0 g path a).getD (0,0)),.one (.p (.v (.bool (f0 g path a).isSome)))]/\∃d,KnownOk g path d/\ob'=(820,lH g path)::(821,GO d)::G4 [821,822,823,824] ob):=by
 obtain⟨now,O,q⟩:=hl.b;have T:=hl.c;have Y:=hl.i;obtain⟨a1,a2⟩:=a;dsimp only at T Y O q;obtain⟨c,R⟩:∃c:Nat,a1=(c:Int):=⟨a1.toNat,by omega⟩
 obtain⟨n,ad⟩:∃n:Nat,a2=(n:Int):=⟨a2.toNat,by omega⟩
 subst R ad;rw[WV]at O q;have ag:n<(D4 now).length:=(List.getElem?_eq_some_iff.1 q).1;obtain⟨S,M⟩:∃S,S=x5 g path c:=⟨_,rfl⟩
 have C:f0 g path ((c:Int),(n:Int))=x6 S n:=by unfold f0;rw[M];rfl
 have B:c<g.length:=by omega
 have af:S.length<=3:=by
  rw[M];have h5:=nV (g:=g) (path:=path) (now:=Q7 (E0 g c) path) (E1 g c);have h6:(E1 g c).length<=3:=by rw[X8 B];exact (hg.pars _ (WY B)).1
  unfold x5;omega
 have Q:∀s∈S,s.2.length=(D4 now).length:=fun s P=>by
  rw[M]at P;rw[KI P];unfold Q7;rw[O];rfl
 rw[C];refine AL.Met.introH Tryz.func50 (by decide) rfl rfl rfl (fun H=>?_);refine G8 (VZ 821 (l:=[(0,.s rL),(1,.s (PC ((c:Int),(n:Int))))]) (L:=[(820,_),(821,_)]) ⟨B4 rfl,B4 rfl,trivial⟩ H (by repeat (first | exact C3 | refine C4 rfl ?_)) ⟨h0,G,trivial⟩) ?_;refine G8 (Sees.forget 822) ?_;refine G8 (Sees.forget 823) ?_;refine G8 (Sees.forget 824) ?_;refine G8 (VW (gf':=D2 [821,822,823,824] gf) (l:=[(0,.s rL),(1,.s (PC ((c:Int),(n:Int))))]) (ob':=[(820,lH g path),(821,GO A)]++G4 [821,822,823,824] ob) ⟨B4 rfl,B4 rfl,trivial⟩ (G5 H) (by repeat (first | exact C3 | refine tail_drop rfl ?_ | refine C4 rfl ?_ | refine I7 _ rfl ?_)) (G9 (L:=[(820,_),(821,_)]) ⟨rfl,rfl,trivial⟩ (by repeat (first | exact F6 | refine G3 rfl ?_ | refine L8 _ rfl ?_)))) ?_;have U:C5 (G4 [821,822,823,824] ob) 822=none:=N0 h2;have V:C5 (G4 [821,822,823,824] ob) 823=none:=N0 h3;have W:C5 (G4 [821,822,823,824] ob) 824=none:=N0 h4;refine k2 ?_;refine A7 (A6 (jK Z Z Z) Z (D6 (kM 823 V (by decide)) Z (A6 (A9 Z Z) Z (B0 ?_))));refine k1 (k2 (k2 ?_));refine G8 (VW (gf':=D2 [821,822,823,824] gf) (l:=[(0,.s rL),(3,.s (.one (.eref Unit 2 (fun _ j=>[Cell.v (.int .i64 c),Cell.v (.int .i64 n)].getD j (.v undef)) () 0))),(4,.s (.one (.ref 823 0)))]) (ob':=[(820,lH g path),(821,GO A),(823,.box [.p (.v (.int .i64 0)),.p (.v (.int .i64 0))])]++G4 [821,822,823,824] ob) ⟨B4 rfl,B4 rfl,B4 rfl,trivial⟩ (G5 H) (by repeat (first | exact C3 | refine tail_drop rfl ?_ | refine C4 rfl ?_ | refine I7 _ rfl ?_)) (G9 (L:=[(820,_),(821,_),(823,_)]) ⟨rfl,rfl,rfl,trivial⟩ (by repeat (first | exact F6 | refine G3 rfl ?_ | refine L8 _ rfl ?_)))) ?_;refine A7 (A6 (A8 Z Z) Z (A6 (C9 Z) Z (A6 (C0 Z Z) Z (Z7 (xW g path now c A h hg B O hk Z Z U) Z Z Z ?_))));rintro _ _ ⟨rfl,d,I,rfl⟩;refine A6 (F0 Z (.pure _ _ _ _)) Z (A6 (A8 Z Z) Z (B0 ?_));rw[<-M];refine k1 (k3 ?_);refine E4 (X:=Nat) (fun k=>([(3,.s (.one (.eref Unit 2 (fun _ j=>[Cell.v (.int .i64 c),Cell.v (.int .i64 n)].getD j (.v undef)) () 0))),(4,.s (.one (.ref 823 0))),(12,E3 Src 2 CD S),(13,C7 S.length),(14,C7 k)]++D2 [821,822,823,824] gf,[(820,lH g path),(821,GO d),(823,.box [.p (.v (.int .i64 0)),.p (.v (.int .i64 0))])]++G4 [821,822,823,824] ob)) (fun k=>k<=S.length/\x6 S n=x6 (S.drop k) n) (fun k=>S.length-k) 0 ⟨Nat.zero_le _,rfl⟩ ?_ ?_
 ·exact VW ⟨B4 rfl,B4 rfl,B4 rfl,B4 rfl,B4 rfl,trivial⟩ (G5 H) (by repeat (first | exact C3 | refine tail_drop rfl ?_ | refine C4 rfl ?_ | refine I7 _ rfl ?_)) (G9 (L:=[(820,_),(821,_),(823,_)]) ⟨rfl,rfl,rfl,trivial⟩ (by repeat (first | exact F6 | refine G3 rfl ?_ | refine L8 _ rfl ?_)))
 rintro k ⟨ab,z⟩;dsimp only at ab z ⊢;refine k2 ?_;refine A7 (A6 (F3 Z Z) Z (B0 ?_));refine k1 (k2 ?_);refine B9 rfl (fun E=>?_) (fun E=>?_);rotate_left
 ·have ac:k=S.length:=by have G:=A1 E;(try dsimp only at G);omega
  rw[ac,List.drop_length]at z;rw[z];refine k6 (k2 ?_);refine A7 (A6 (H1 Z) Z (F7 (C1 TySz.out Z Z Z Z Z Z) (A6 (A9 Z Z) Z (B0 ?_))));refine k1 (I9 ?_);exact I6 (RetOk.sAll (ps:=[.agg [.v (.int .i64 0),.v (.int .i64 0)],H6 false]) (kP rfl rfl rfl rfl rfl rfl rfl)) (by repeat (first | exact C3 | refine tail_drop rfl ?_ | refine C4 rfl ?_ | refine I7 _ rfl ?_)) (G9 (L:=[(820,_),(821,_)]) ⟨rfl,rfl,trivial⟩ (by repeat (first | exact F6 | refine G3 rfl ?_ | refine L5 (by assumption) ?_ | refine L8 _ rfl ?_))) ⟨rfl,d,I,rfl⟩
 have J:k<S.length:=by have G:=A0 E;(try dsimp only at G);omega
 obtain⟨s,P⟩:∃s,s=S[k]:=⟨_,rfl⟩
 have hv:S[k]?=some s:=by rw[P];exact WT J
 have ah:=Q s (XL hv);obtain⟨w,hw⟩:∃w,w=s.2[n]'(by omega):=⟨_,rfl⟩
 have K:s.2[n]?=some w:=by rw[hw];exact WT (by omega)
 have ae:s.2[((n:Nat):Int).toNat]?=some w:=by rw[WV];exact K
 have y:=CE (i:=n) hv;rw[K]at y;dsimp only at y;refine k5 (k1 (k2 (k3 (k2 ?_))));refine A7 (A6 (B8 Z (.pure _ _ _ _) Z (by omega) hv) Z (A6 (G7 Z Z) Z (D6 (kM 824 W (by decide)) Z (F7 (C1 TySz.out Z Z Z Z Z Z) (B0 ?_)))));refine k1 (k2 ?_);refine A7 (A6 (B1 Z) Z (A6 (B2 Z Z Z) Z (A6 (C9 Z) Z (A6 (C0 Z Z) Z (A6 (B8 Z (.pure _ _ _ _) Z (by omega) ae) Z (A6 (C0 Z Z) Z (A6 (A9 Z Z) Z (B0 ?_))))))));refine k1 (k2 ?_);refine A7 (A6 (A8 Z Z) Z (A6 (U7 Z Z) Z (B0 ?_)));refine k1 ?_;refine B9 rfl (fun E=>?_) (fun E=>?_)
 ·have F:0<=w:=A0 E;rw[A4 F]at y;rw[z,y];refine k2 ?_;refine A7 (A6 (B1 Z) Z (A6 (B2 Z Z Z) Z (A6 (A8 Z Z) Z (A6 (H1 Z) Z (F7 (C1 TySz.out Z Z Z Z Z Z) (A6 (A9 Z Z) Z (B0 ?_)))))));refine k1 (I9 (W5 (N4 (N4 (W5 (N4 ?_))))));exact I6 (RetOk.sAll (ps:=[.agg [.v (.int .i64 s.1),.v (.int .i64 w)],H6 true]) (kP rfl rfl rfl rfl rfl rfl rfl)) (by repeat (first | exact C3 | refine tail_drop rfl ?_ | refine C4 rfl ?_ | refine I7 _ rfl ?_)) (G9 (L:=[(820,_),(821,_)]) ⟨rfl,rfl,trivial⟩ (by repeat (first | exact F6 | refine G3 rfl ?_ | refine L5 (by assumption) ?_ | refine L8 _ rfl ?_))) ⟨rfl,d,I,rfl⟩
 ·have F:¬0<=w:=A1 E;rw[A5 F]at y;refine k5 (k4 (k1 ?_));refine A7 (A6 (D5 Z Z (by omega)) Z (A6 (A8 Z Z) Z (B0 ?_)));refine k1 ?_;exact⟨k+1,⟨J,by rw[z,y]⟩,by omega,VW ⟨B4 rfl,B4 rfl,B4 rfl,B4 rfl,B4 rfl,trivial⟩ (G5 H) (by repeat (first | exact C3 | refine tail_drop rfl ?_ | refine C4 rfl ?_ | refine I7 _ rfl ?_)) (G9 (L:=[(820,_),(821,_),(823,_)]) ⟨rfl,rfl,rfl,trivial⟩ (by repeat (first | exact F6 | refine G3 rfl ?_ | refine L5 (by assumption) ?_ | refine L8 _ rfl ?_)))⟩
def pH:Int×Int->Nat->Cell:=fun a j=>match j with
 | 0=>.v (.int .i64 a.1)
 | _=>.v (.int .i64 a.2)
theorem DZ(g:Graph)(a:Str)(c i:Nat):W4 g a c (i+1)=W4 g a c i++[w8 g a ((c:Int),(i:Int))]:=by
 unfold W4;rw[YR,YC];rfl
theorem vF(g:Graph)(a:Str)(c i:Nat):(W4 g a c i).length=i:=by unfold W4;rw[XW,YG]
theorem vG(g:Graph)(c:Nat)(d j:Str)(h:FewT g)(D:GB g)(hk:r8 g c=0)(Q:F5 (E0 g c) d=some j) :
  FnOk Tryz.prog 18 [H4 g,E8 c,I3 d] (fun rs=>rs=[.one (.list (Int×Int) 2 pH (W4 g d c (D4 j).length)),E8 0]):=by
 obtain⟨hv,_,hc⟩:=u5 hk;have hb:=d5 D Q;have P:=hb.2;obtain⟨n,hn⟩:∃n,n=(D4 j).length:=⟨_,rfl⟩
 have hB:=DY g c d j h hk Q hb;rw[<-hn]at hB P ⊢;refine FnOk.intro Tryz.func18 (by decide) Z Z Z Z ?_;refine k2 ?_;refine A7 (A6 (J1 _ 2 pH) Z (A6 (A9 Z Z) Z (B0 ?_)));refine k1 (k2 ?_);refine A7 (A6 (A8 Z Z) Z (A6 (A8 Z Z) Z (A6 (A8 Z Z) Z (qY (hB) Z Z Z Z ?_))));rintro _ _ ⟨rfl,rfl⟩;refine⟨rfl,?_⟩;refine A6 (A8 Z Z) Z (A6 (B7 Z Z) Z (A6 (B7 Z Z) Z (A6 (B7 Z Z) Z (A6 (A9 Z Z) Z (A6 (A9 Z Z) Z (A6 (A9 Z Z) Z (B0 ?_)))))));refine k1 (k2 (k2 ?_));refine A7 (A6 (A8 Z Z) Z (A6 (N5 Z Z) Z (B0 ?_)));refine k1 ?_;refine B9 rfl (fun y=>?_) (fun y=>?_)
 ·exact absurd rfl (A0 y)
 refine k5 (k1 (k2 ?_));refine A7 (D6 (y6 11 _ pH Z) Z (B0 ?_));refine k1 (k2 (k2 ?_));refine A7 (A6 (A8 Z Z) Z (A6 (A8 Z Z) Z (B0 ?_)));refine k1 (k3 ?_);refine E4 (X:=Nat×List Int) (fun x=>([(1,C7 c),(8,.s rL),(11,.s (.one (.buf 11 (Int×Int) 2 pH (W4 g d c x.1)))),(27,C7 n),(28,C7 x.1)],[(820,lH g d),(821,GO (z8 g d x.2)),(11,.spare (W4 g d c x.1).length 2 59)])) (fun x=>x.1<=n) (fun x=>n-x.1) (0,[]) (Nat.zero_le _) (Sees.of ⟨B4 rfl,B4 rfl,B4 rfl,B4 rfl,B4 rfl,trivial⟩ ⟨rfl,rfl,rfl,trivial⟩) ?_;rintro⟨i,ac⟩ hi;dsimp only at hi ⊢;have af:=vF g d c i;refine k2 ?_;refine A7 (A6 (F3 Z Z) Z (B0 ?_));refine k1 (k2 ?_);refine B9 rfl (fun y=>?_) (fun y=>?_);rotate_left
 ·have R:i=n:=by have M:=A1 y;(try dsimp only at M);omega
  rw[R];refine k6 (k2 ?_);refine A7 (A6 (A8 Z Z) Z (A6 (A9 Z Z) Z (A6 (A9 Z Z) Z (B0 ?_))));refine k1 (I9 ?_);exact C2 (rs:=[.one (.list (Int×Int) 2 pH (W4 g d c n)),E8 0]) (U1 rfl rfl rfl rfl rfl) rfl
 have U:i<n:=by have M:=A0 y;(try dsimp only at M);omega
 have q:=DZ g d c i;obtain⟨v,V⟩:∃v,v=(D4 j)[i]'(by omega):=⟨_,rfl⟩
 have T:LineAt g d v ((c:Int),(i:Int)):=⟨⟨by omega,hc⟩,by omega,j,Q,by rw[V];exact WT _⟩
 obtain⟨O,hO⟩:∃O,O=w8 g d ((c:Int),(i:Int)):=⟨_,rfl⟩
 have Y:InWay g c 0:=InWay.initB D (by omega);rw[<-hO]at q;refine k5 (k1 (k2 (k3 (k2 ?_))));refine A7 (A6 (A8 Z Z) Z (A6 (A9 Z Z) Z (B0 ?_)));refine k1 (k2 ?_);refine A7 (A6 (A8 Z Z) Z (A6 (A8 Z Z) Z (A6 (H1 Z) Z (D6 (I1 13 Z) Z (F7 (C1 TySz.out Z Z Z Z Z Z) (B0 ?_))))));refine k1 (k2 (k3 ?_));refine E4 (X:=Nat×(Int×Int)×List Int) (fun x=>([(1,C7 c),(8,.s rL),(11,.s (.one (.buf 11 (Int×Int) 2 pH (W4 g d c i)))),(13,.s (.one (.ref 13 0))),(27,C7 n),(28,C7 i)],[(820,lH g d),(821,GO (z8 g d x.2.2)),(11,.spare (W4 g d c i).length 2 59),(13,.box [.p (.v (.int .i64 x.2.1.1)),.p (.v (.int .i64 x.2.1.2))])])) (fun x=>LineAt g d v x.2.1/\InWay g x.2.1.1.toNat x.1/\U5 g d (g.length-x.1) x.2.1=O) (fun x=>g.length-x.1) (0,((c:Int),(i:Int)),ac) ⟨T,Y,hO.symm⟩ (Sees.of ⟨B4 rfl,B4 rfl,B4 rfl,B4 rfl,B4 rfl,B4 rfl,trivial⟩ ⟨rfl,rfl,rfl,rfl,trivial⟩) ?_;rintro⟨m,a,w⟩ ⟨E,W,A⟩;dsimp only at E W A ⊢;have ag:=E.c;have ae:=W.lt (by omega);cases z:f0 g d a with
 | none =>
  have C:=fun {gf:Fr} {ob:Obs} (H:C5 ob 820=some (lH g d)) (I:C5 ob 821=some (GO (z8 g d w))) (J:C5 ob 822=none) (K:C5 ob 823=none) (L:C5 ob 824=none)=>vE (gf:=gf) g d v a (z8 g d w) h D E ⟨w,rfl⟩ H I J K L;rw[z]at C;have N:O=a:=by rw[<-A];exact gC z _
  refine k3 (k2 ?_);refine A7 (A6 (A8 Z Z) Z (A6 (F1 Z Z Z) Z (Z7 (C Z Z Z Z Z) Z Z Z ?_)));rintro _ _ ⟨rfl,_,⟨B,rfl⟩,rfl⟩;refine A6 (A8 Z Z) Z (A6 (B7 Z Z) Z (A6 (B7 Z Z) Z (D6 (I1 14 Z) Z (F7 (C1 TySz.out Z Z Z Z Z Z) (A6 (A9 Z Z) Z (B0 ?_))))));refine k1 (k2 (k2 ?_));refine A7 (A6 (A8 Z Z) Z (A6 (N2 Z) Z (B0 ?_)));refine k1 ?_;refine B9 rfl (fun y=>?_) (fun y=>?_);rotate_left
  ·cases y
  rw[N]at q;refine k6 (k7 (k9 Z (k7 (k8 Z (k1 ?_)))));refine A7 (A6 (A8 Z Z) Z (A6 (F1 Z Z Z) Z (A6 (D9 (c:=pH) (ys:=[a]) (D8 Z Z Z Z H5) Z Z Z) Z (D6 (N6 Z Z Z (.pure _ _ _ _) (by (simp only[WW,XD];omega)) Z) Z (A6 (A9 Z Z) Z (B0 ?_))))));rw[<-q];refine k4 (k1 ?_);refine A7 (A6 (D5 Z Z (by omega)) Z (A6 (A8 Z Z) Z (B0 ?_)));refine k1 ?_;exact⟨(i+1,B),U,by dsimp only;omega,(by dsimp only;rw[q];exact (Sees.of ⟨B4 rfl,B4 rfl,B4 rfl,B4 rfl,B4 rfl,trivial⟩ ⟨rfl,rfl,rfl,trivial⟩))⟩
 | some b =>
  have C:=fun {gf:Fr} {ob:Obs} (H:C5 ob 820=some (lH g d)) (I:C5 ob 821=some (GO (z8 g d w))) (J:C5 ob 822=none) (K:C5 ob 823=none) (L:C5 ob 824=none)=>vE (gf:=gf) g d v a (z8 g d w) h D E ⟨w,rfl⟩ H I J K L;rw[z]at C;obtain⟨F,G⟩:=E.step D z;have ad:=F.c;have ab:=W.step (p:=b.1.toNat) (by rw[show ((b.1.toNat:Nat):Int)=b.1 by omega];exact G);obtain⟨k,S⟩:∃k,g.length-m=k+1:=⟨g.length-m-1,by omega⟩
  rw[S,nU z]at A;refine k3 (k2 ?_);refine A7 (A6 (A8 Z Z) Z (A6 (F1 Z Z Z) Z (Z7 (C Z Z Z Z Z) Z Z Z ?_)));rintro _ _ ⟨rfl,_,⟨B,rfl⟩,rfl⟩;refine A6 (A8 Z Z) Z (A6 (B7 Z Z) Z (A6 (B7 Z Z) Z (D6 (I1 14 Z) Z (F7 (C1 TySz.out Z Z Z Z Z Z) (A6 (A9 Z Z) Z (B0 ?_))))));refine k1 (k2 (k2 ?_));refine A7 (A6 (A8 Z Z) Z (A6 (N2 Z) Z (B0 ?_)));refine k1 ?_;refine B9 rfl (fun y=>?_) (fun y=>?_)
  ·cases y
  refine k5 (k1 ?_);refine A7 (A6 (F1 Z Z Z) Z (F7 (C1 TySz.out Z Z Z Z Z Z) (B0 ?_)));refine k4 (k1 ?_);exact⟨(m+1,b,B),⟨F,ab,(by dsimp only;rw[show g.length-(m+1)=k by omega];exact A)⟩,by dsimp only;omega,(Sees.of ⟨B4 rfl,B4 rfl,B4 rfl,B4 rfl,B4 rfl,B4 rfl,trivial⟩ ⟨rfl,rfl,rfl,rfl,trivial⟩)⟩
set_option maxHeartbeats 1000000
structure GF (B:Nat) (l:List File):Prop where
 len:l.length<=4
 all:∀f∈l,f.Path.length<=3/\f.Blob.length<=B
theorem GF.few{B:Nat}{l:List File}(h:GF B l)(b:B<=16777216):FewF l :=
 ⟨by have:=h.len;omega,fun f a=>by have:=(h.all f a).1;omega,fun f a=>by have:=(h.all f a).2;omega⟩
theorem GF.mono{B B':Nat}{l:List File}(h:GF B l)(b:B<=B'):GF B' l:=⟨h.len,fun f a=>⟨(h.all f a).1,by have:=(h.all f a).2;omega⟩⟩
theorem QH(i:Nat)(h:i<4):∃b:Str,names4[((i:Nat):Int).toNat]?=some b/\b.length<=3:=by
 rw[WV]
 match i,h with
 | 0,_=>exact⟨_,rfl,by decide⟩
 | 1,_=>exact⟨_,rfl,by decide⟩
 | 2,_=>exact⟨_,rfl,by decide⟩
 | 3,_=>exact⟨_,rfl,by decide⟩
theorem EA(a:Str)(b:List Int)(k:Int):(cD a b k).length<=5*a.length:=by
 have c:=dO b k (D4 a) 0 [];have d:=aM a;rw[c5]at c;unfold cD;simp only[XD]at c;omega
theorem IX(k:Int):(d8 k).count 10=0:=by
 have h:∀s∈lineTab,s.count 10=0:=by decide
 have d:=T3 k (n:=10) (by omega);have b:(R5 k 10).toNat<lineTab.length:=by show _<10;omega
 unfold d8;rw[XC,WT b];exact h _ (WY b)
theorem dP(a:List Int)(k:Int):∀(l:List Str) (i:Nat) (s:Str),(Z2 a k i s l).count 10<=s.count 10+l.flatten.count 10+l.length
 | [],i,s=>by simp[Z2]
 | x::r,i,s=>by
  have e:=dP a k r (i+1) s;have f:=dP a k r (i+1) (s++d8 (Z8 a (k+40+(i:Int)))++[10]++x);have g:=dP a k r (i+1) (s++x);have b:=IX (Z8 a (k+40+(i:Int)));have d:List.count (10:UInt8) [10]=1:=by decide
  simp only[List.count_append,b,d,YI,WW]at *;unfold Z2;split
  ·omega
  split
  ·omega
  ·omega
theorem EB(a:Str)(b:List Int)(k:Int):(cD a b k).count 10<=2*a.count 10+1:=by
 have d:=dP b k (D4 a) 0 [];have e:=cJ a;rw[c5]at d;unfold cD;simp only[List.count_nil]at d;split at e<;>omega
theorem rM(k:Int):NoDig (d8 k):=by
 have h:∀s∈lineTab,∀c∈s,c.toNat<48\/57<c.toNat:=by decide
 have d:=T3 k (n:=10) (by omega);have b:(R5 k 10).toNat<lineTab.length:=by show _<10;omega
 unfold d8;rw[XC,WT b];exact h _ (WY b)
theorem MS:NoDig [10]:=fun c a=>by rw[List.mem_singleton.1 a];decide
theorem dQ(b:List Int)(k:Int):∀(l:List Str) (i:Nat) (s:Str),NoDig s->(∀x∈l,NoDig x)->NoDig (Z2 b k i s l)
 | [],_,_,hs,_=>hs
 | x::r,i,s,hs,hl=>by
  have d:=hl x (by simp);have c:∀y∈r,NoDig y:=fun y e=>hl y (by simp[e]);unfold Z2;split
  ·exact dQ b k r _ _ hs c
  split
  ·exact dQ b k r _ _ (((hs.app (rM _)).app MS).app d) c
  ·exact dQ b k r _ _ (hs.app d) c
theorem EC{a:Str}(h:NoDig a)(b:List Int)(k:Int):NoDig (cD a b k) :=
 dQ b k _ 0 [] (fun _ h=>by cases h) fun x e=>h.sub fun c d=>by rw[<-c5 a];exact List.mem_flatten.2 ⟨x,e,d⟩
theorem cG(d:List Int)(k b:Int):∀m,NoDig (V2 d k b m)
 | 0=>fun c e=>by simp[V2]at e
 | m+1=>by rw[aK];exact ((cG d k b m).app (rM _)).app MS
theorem ED(d:List Int)(k n a:Int):NoDig (dN d k n a):=by
 unfold dN;simp only;split
 ·exact (cG d k a _).sub fun c e=>List.mem_of_mem_take e
 ·exact cG d k a _
theorem xX{α:Type}{l:List α}{i:Nat}{x:α}(h:l[i]?=some x):l.take (i+1)=l.take i++[x]:=by rw[List.take_add_one,h];rfl
theorem vH(j:List Int)(k d:Int)(I:0<=k/\k<=1000000)(C:0<=d/\d<=16):FnOk Tryz.prog 27 [O6 j,E8 k,E8 d] (fun rs=>∃l,rs=[x1 l]/\GF 64 l/\GN 64 l):=by
 refine FnOk.intro Tryz.func27 (by decide) Z Z Z Z ?_;refine k2 ?_;refine A7 (A6 (A9 Z Z) Z (B0 ?_));refine k1 (k2 ?_);refine A7 (A6 (D9 (c:=R8) (ys:=names4) (D8 Z Z Z Z (D8 Z Z Z Z (D8 Z Z Z Z (D8 Z Z Z Z H5)))) Z Z Z) Z (A6 (A9 Z Z) Z (B0 ?_)));refine k1 (k2 ?_);refine A7 (D6 (y6 8 _ Z9 Z) Z (B0 ?_));refine k1 (k2 (k2 ?_));refine A7 (A6 (A9 Z Z) Z (B0 ?_));refine k1 (k3 ?_);refine E4 (X:=Nat×List File) (fun x=>([(0,E3 Int 1 G1 j),(1,C7 k),(2,C7 d),(7,E3 Str 1 R8 names4),(8,.s (.one (.buf 8 File 2 Z9 x.2))),(9,C7 x.1)],[(8,.spare x.2.length 2 72)])) (fun x=>x.1<=4/\x.2.length<=x.1/\(∀f∈x.2,f.Path.length<=3/\f.Blob.length<=64)/\(x.2.map (·.Path)).Sublist (names4.take x.1)/\∀f∈x.2,NoDig f.Blob) (fun x=>4-x.1) (0,[]) ⟨Nat.zero_le _,Nat.le_refl _,(fun _ h=>by cases h),List.Sublist.refl [],(fun _ h=>by cases h)⟩ (Sees.of ⟨B4 rfl,B4 rfl,B4 rfl,B4 rfl,B4 rfl,B4 rfl,trivial⟩ ⟨rfl,trivial⟩) ?_;rintro⟨i,w⟩ ⟨H,E,g,m,v⟩;dsimp only at H E g m v ⊢;refine k2 (k2 ?_);refine A7 (A6 (A8 Z Z) Z (A6 (F3 Z Z) Z (B0 ?_)));refine k1 ?_;refine B9 rfl (fun B=>?_) (fun B=>?_);rotate_left
 ·refine k6 (k2 ?_);refine A7 (A6 (A8 Z Z) Z (A6 (A9 Z Z) Z (B0 ?_)));refine k1 (I9 ?_);exact C2 (rs:=[x1 w]) (J5 rfl rfl rfl) ⟨w,rfl,⟨by omega,g⟩,m.trans (List.take_sublist _ _),fun f q=>Nat.le_trans List.count_le_length (g f q).2,v⟩
 have y:i<4:=by have C:=A0 B;(try dsimp only at C);omega
 obtain⟨F,z,D⟩:=QH i y;have A:names4.take (i+1)=names4.take i++[F]:=xX (by rw[<-z,WV]);refine k5 (k1 (k2 (k3 (k2 ?_))));refine A7 (A6 (A8 Z Z) Z (A6 (A8 Z Z) Z (A6 (A8 Z Z) Z (A6 (D5 Z Z (by omega)) Z (D1 (bG j (k+(i:Int)) (by omega) (by omega)) Z Z Z ?_)))));rintro _ rfl;refine A6 (iC Z Z (by omega)) Z (A6 (P5 Z Z) Z (B0 ?_));refine k1 ?_;refine B9 rfl (fun B=>?_) (fun B=>?_)
 ·have G:=DH j (k+10+20*(i:Int)) d 4 C.1;skip;refine D7 (by kernel_rfl) (by kernel_rfl) (B3 (A8 Z Z) Z Z (B3 (A8 Z Z) Z Z (B3 (A8 Z Z) Z Z (B3 (B8 Z (.pure _ _ _ _) Z (by omega) z) Z Z (B3 (C0 Z Z) Z Z (B3 (A8 Z Z) Z Z (B3 (A8 Z Z) Z Z (B3 (D5 Z Z (by omega)) Z Z (B3 (A8 Z Z) Z Z (B3 (cO Z Z (by omega)) Z Z (B3 (D5 Z Z (by omega)) Z Z (B3 (A8 Z Z) Z Z (B3 (I4 (OT j (k+10+20*(i:Int)) d 4 (by omega) (by omega) (by omega)) Z Z) Z Z (B3 (H1 Z) Z Z (B3 (D9 (c:=Z9) (ys:=[⟨F,dN j (k+10+20*(i:Int)) d 4⟩]) (D8 Z Z Z Z H5) Z Z Z) Z Z (LI (N6 Z Z Z (.pure _ _ _ _) (by (simp only[WW,XD];omega)) Z) Z Z (B3 (A9 Z Z) Z Z (M5 ?_))))))))))))))))));refine k4 (k1 ?_);refine A7 (A6 (A8 Z Z) Z (A6 (D5 Z Z (by omega)) Z (A6 (A9 Z Z) Z (B0 ?_))));refine k1 ?_;refine⟨(i+1,w++[⟨F,dN j (k+10+20*(i:Int)) d 4⟩]),⟨y,by rw[WX,List.length_singleton];omega,fun f q=>?_,by dsimp only;rw[A,YC];exact m.append (List.Sublist.refl _),fun f q=>?_⟩,by dsimp only;omega,(Sees.of ⟨B4 rfl,B4 rfl,B4 rfl,B4 rfl,B4 rfl,B4 rfl,trivial⟩ ⟨rfl,trivial⟩)⟩
  ·rcases WZ.1 q with q | q
   ·exact g f q
   ·rw[List.mem_singleton.1 q];exact⟨D,by dsimp only;omega⟩
  ·rcases WZ.1 q with q | q
   ·exact v f q
   ·rw[List.mem_singleton.1 q];exact ED _ _ _ _
 ·refine k5 (k4 (k1 ?_));refine A7 (A6 (A8 Z Z) Z (A6 (D5 Z Z (by omega)) Z (A6 (A9 Z Z) Z (B0 ?_))));refine k1 ?_;exact⟨(i+1,w),⟨y,by dsimp only;omega,g,by dsimp only;rw[A];exact m.trans (List.sublist_append_left _ _),v⟩,by dsimp only;omega,(Sees.of ⟨B4 rfl,B4 rfl,B4 rfl,B4 rfl,B4 rfl,B4 rfl,trivial⟩ ⟨rfl,trivial⟩)⟩
theorem EE(l:List File)(g:List Int)(k j:Int)(B L:Nat)(O:GF B l)(J:GN L l)(hL:32<=L)(hB:B<=3000000)(R:0<=k/\k<=1000000)(I:0<=j/\j<=16):FnOk Tryz.prog 28 [x1 l,O6 g,E8 k,E8 j] (fun rs=>∃E,rs=[x1 E]/\GF (5*B+64) E/\GN (2*L+1) E):=by
 have W:=O.len;refine FnOk.intro Tryz.func28 (by decide) Z Z Z Z ?_;refine k2 ?_;refine A7 (A6 (A9 Z Z) Z (B0 ?_));refine k1 (k2 ?_);refine A7 (D6 (y6 9 _ Z9 Z) Z (B0 ?_));refine k1 (k2 ?_);refine A7 (A6 (A8 Z Z) Z (A6 (A8 Z Z) Z (A6 (D5 Z Z (by omega)) Z (D1 (bG g (k+3) (by omega) (by omega)) Z Z Z ?_))));rintro _ rfl;refine D1 (cC (Z8 g (k+3)) 4 (by omega) (by omega)) Z Z Z ?_;rintro _ rfl;refine A6 (A9 Z Z) Z (B0 ?_);obtain⟨m,Y⟩:∃m,m=R5 (Z8 g (k+3)) 4:=⟨_,rfl⟩
 rw[<-Y];refine k1 (k2 (k2 ?_));refine A7 (A6 (A9 Z Z) Z (B0 ?_));refine k1 (k3 ?_);refine E4 (X:=Nat×List File) (fun x=>([(0,E3 File 2 Z9 l),(1,E3 Int 1 G1 g),(2,C7 k),(3,C7 j),(9,.s (.one (.buf 9 File 2 Z9 x.2))),(10,C7 m),(11,C7 x.1)],[(9,.spare x.2.length 2 72)])) (fun x=>x.1<=l.length/\x.2.length<=x.1/\(∀f∈x.2,f.Path.length<=3/\f.Blob.length<=5*B+64)/\(x.2.map (·.Path)).Sublist ((l.take x.1).map (·.Path))/\(∀f∈x.2,f.Blob.count 10<=2*L+1)/\∀f∈x.2,NoDig f.Blob) (fun x=>l.length-x.1) (0,[]) ⟨Nat.zero_le _,Nat.le_refl _,(fun _ h=>by cases h),List.Sublist.refl [],(fun _ h=>by cases h),(fun _ h=>by cases h)⟩ (Sees.of ⟨B4 rfl,B4 rfl,B4 rfl,B4 rfl,B4 rfl,B4 rfl,B4 rfl,trivial⟩ ⟨rfl,trivial⟩) ?_;rintro⟨i,A⟩ ⟨V,N,q,v,y,z⟩;dsimp only at V N q v y z ⊢;refine k2 (k2 ?_);refine A7 (A6 (A8 Z Z) Z (A6 (A8 Z Z) Z (A6 (F0 Z (.pure _ _ _ _)) Z (A6 (F3 Z Z) Z (B0 ?_)))));refine k1 ?_;refine B9 rfl (fun C=>?_) (fun C=>?_);rotate_left
 ·refine k6 (k2 (k2 ?_));refine A7 (A6 (A8 Z Z) Z (A6 (F0 Z (.buf _ _ _ _ _)) Z (A6 (K4 Z Z) Z (B0 ?_))));refine k1 ?_;refine B9 rfl (fun C=>?_) (fun C=>?_)
  ·refine k2 ?_;refine A7 (A6 (A8 Z Z) Z (A6 (A8 Z Z) Z (A6 (A8 Z Z) Z (D1 (vH g k j R I) Z Z Z ?_))));rintro _ ⟨E,rfl,K,M⟩;refine A6 (A9 Z Z) Z (B0 ?_);refine k1 (I9 (N4 ?_));exact C2 (rs:=[x1 E]) (J5 rfl rfl rfl) ⟨E,rfl,K.mono (by omega),M.mono (by omega)⟩
  ·refine k5 (k1 (k2 ?_));refine A7 (A6 (A8 Z Z) Z (A6 (A9 Z Z) Z (B0 ?_)));refine k1 (I9 ?_);exact C2 (rs:=[x1 A]) (J5 rfl rfl rfl) ⟨A,rfl,⟨by omega,q⟩,(v.trans ((List.take_sublist _ _).map _)).trans J.sub,y,z⟩
 have w:i<l.length:=by have I:=A0 C;(try dsimp only at I);omega
 obtain⟨f,H⟩:∃f,f=l[i]:=⟨_,rfl⟩
 have Q:l[i]?=some f:=by rw[H];simp[w]
 obtain⟨G,T⟩:=O.all f (by rw[H];exact WY w);have ac:=EA f.Blob g (k+7);have ab:=EB f.Blob g (k+7);have U:=J.cnt f (by rw[H];exact WY w);have F:=J.dig f (by rw[H];exact WY w);have D:(l.take (i+1)).map (·.Path)=(l.take i).map (·.Path)++[f.Path]:=by rw[xX Q,YC];rfl
 refine k5 (k1 (k2 (k3 (k2 ?_))));refine A7 (A6 (A8 Z Z) Z (A6 (A8 Z Z) Z (A6 (B8 Z (.pure _ _ _ _) Z (by omega) Q) Z (A6 (G7 Z Z) Z (D6 (I1 12 Z) Z (F7 (C1 TySz.out Z Z Z Z Z Z) (B0 ?_)))))));refine k1 (k2 (k2 ?_));refine A7 (A6 (A8 Z Z) Z (A6 (A8 Z Z) Z (A6 (K4 Z Z) Z (B0 ?_))));refine k1 ?_;refine B9 rfl (fun C=>?_) (fun C=>?_)
 ·refine k2 ?_;refine A7 (A6 (B1 Z) Z (A6 (B2 Z Z Z) Z (A6 (A8 Z Z) Z (A6 (A8 Z Z) Z (A6 (D5 Z Z (by omega)) Z (D1 (OU f.Blob g (k+7) (by omega) (by omega)) Z Z Z ?_))))));rintro _ rfl;refine A6 (B1 Z) Z (F7 (C1 TySz.out Z Z Z Z Z Z) (B0 ?_));refine k1 (k2 ?_);refine A7 (A6 (A8 Z Z) Z (A6 (A8 Z Z) Z (A6 (D5 Z Z (by omega)) Z (D1 (bG g (k+5) (by omega) (by omega)) Z Z Z ?_))));rintro _ rfl;refine A6 (iC Z Z (by omega)) Z (A6 (K4 Z Z) Z (B0 ?_));refine k1 ?_;refine B9 rfl (fun C=>?_) (fun C=>?_)
  ·refine k6 (k7 (k8 Z (k1 ?_)));refine A7 (A6 (A8 Z Z) Z (A6 (D5 Z Z (by omega)) Z (A6 (A9 Z Z) Z (B0 ?_))));refine k1 ?_;exact⟨(i+1,A),⟨w,by dsimp only;omega,q,by dsimp only;rw[D];exact v.trans (List.sublist_append_left _ _),y,z⟩,by dsimp only;omega,(Sees.of ⟨B4 rfl,B4 rfl,B4 rfl,B4 rfl,B4 rfl,B4 rfl,B4 rfl,trivial⟩ ⟨rfl,trivial⟩)⟩
  ·refine k5 (k1 ?_);refine A7 (A6 (A8 Z Z) Z (A6 (F1 Z Z Z) Z (A6 (D9 (c:=Z9) (ys:=[⟨f.Path,cD f.Blob g (k+7)⟩]) (D8 Z Z Z Z H5) Z Z Z) Z (D6 (N6 Z Z Z (.pure _ _ _ _) (by (simp only[WW,XD];omega)) Z) Z (A6 (A9 Z Z) Z (B0 ?_))))));refine k4 (k1 ?_);refine A7 (A6 (A8 Z Z) Z (A6 (D5 Z Z (by omega)) Z (A6 (A9 Z Z) Z (B0 ?_))));refine k1 ?_;refine⟨(i+1,A++[⟨f.Path,cD f.Blob g (k+7)⟩]),⟨w,by rw[WX,List.length_singleton];omega,fun x d=>?_,by dsimp only;rw[D,YC];exact v.append (List.Sublist.refl _),fun x d=>?_,fun x d=>?_⟩,by dsimp only;omega,(Sees.of ⟨B4 rfl,B4 rfl,B4 rfl,B4 rfl,B4 rfl,B4 rfl,B4 rfl,trivial⟩ ⟨rfl,trivial⟩)⟩
   ·rcases WZ.1 d with d | d
    ·exact q x d
    ·rw[List.mem_singleton.1 d];exact⟨G,by dsimp only;omega⟩
   ·rcases WZ.1 d with d | d
    ·exact y x d
    ·rw[List.mem_singleton.1 d];dsimp only;omega
   ·rcases WZ.1 d with d | d
    ·exact z x d
    ·rw[List.mem_singleton.1 d];exact EC F g (k+7)
 ·refine k5 (k1 ?_);refine A7 (A6 (A8 Z Z) Z (A6 (F1 Z Z Z) Z (A6 (D9 (c:=Z9) (ys:=[f]) (D8 Z Z Z Z H5) Z Z Z) Z (D6 (N6 Z Z Z (.pure _ _ _ _) (by (simp only[WW,XD];omega)) Z) Z (A6 (A9 Z Z) Z (B0 ?_))))));refine k4 (k1 ?_);refine A7 (A6 (A8 Z Z) Z (A6 (D5 Z Z (by omega)) Z (A6 (A9 Z Z) Z (B0 ?_))));refine k1 ?_;refine⟨(i+1,A++[f]),⟨w,by rw[WX,List.length_singleton];omega,fun x d=>?_,by dsimp only;rw[D,YC];exact v.append (List.Sublist.refl _),fun x d=>?_,fun x d=>?_⟩,by dsimp only;omega,(Sees.of ⟨B4 rfl,B4 rfl,B4 rfl,B4 rfl,B4 rfl,B4 rfl,B4 rfl,trivial⟩ ⟨rfl,trivial⟩)⟩
  ·rcases WZ.1 d with d | d
   ·exact q x d
   ·rw[List.mem_singleton.1 d];exact⟨G,by omega⟩
  ·rcases WZ.1 d with d | d
   ·exact y x d
   ·rw[List.mem_singleton.1 d];omega
  ·rcases WZ.1 d with d | d
   ·exact z x d
   ·rw[List.mem_singleton.1 d];exact F
structure GG (B:Nat) (g:Graph):Prop where
 len:g.length<=16
 pars:∀c∈g,c.Parents.length<=3/\∀p∈c.Parents,0<=p/\p<(g.length:Int)
 files:∀c∈g,GF B c.Files
theorem GG.few{B:Nat}{g:Graph}(h:GG B g)(b:B<=16777216):FewT g :=
 ⟨⟨by have:=h.len;omega,fun c a=>by have:=(h.pars c a).1;omega⟩,fun c a=>(h.files c a).few b⟩
theorem GG.short{B:Nat}{g:Graph}(h:GG B g):Short g:=fun c=>by
 unfold E0;by_cases a:c<g.length
 ·rw[WT a];have:=(h.files _ (WY a)).len;show g[c].Files.length<=6;omega
 ·rw[XP (by omega)];simp
structure GU (L:Nat) (g:Graph):Prop where
 up:∀c p:Nat,(p:Int)∈E1 g c->p<c
 nice:∀c∈g,c.Parents.Nodup/\0<=c.Date/\c.Date<=5
 tree:∀c∈g,GN L c.Files
theorem GU.valid{B L:Nat}{g:Graph}(h:GG B g)(p:B<=1048576)(d:L<=2111)(k:OneWay g)(i:∀c∈g,c.Parents.Nodup/\0<=c.Date/\c.Date<=5)(j:∀c∈g,GN L c.Files):GV g where
 len:=h.len
 pars:=fun c b=>⟨(h.pars c b).1,(h.pars c b).2,i c b⟩
 way:=k
 files:=fun c b=>⟨(j c b).mono d,fun f e=>by have:=((h.files c b).all f e).2;omega⟩
theorem EF{g:Graph}{k:Nat}{x:Commit}(j:Nat){p:Int}(h:p∈E1 (g.set k x) j):(j=k/\p∈x.Parents)\/p∈E1 g j:=by
 unfold E1 at h ⊢;rw[YQ]at h;split at h
 ·rename_i e;split at h
  ·exact .inl ⟨e.symm,h⟩
  ·cases h
 ·exact .inr h
theorem EG(n:Int){l:List Int}(h:l.Nodup):(l.map fun q=>n-1-q).Nodup:=by
 rw[List.nodup_iff_pairwise_ne,List.pairwise_map];exact h.imp fun {a b} c e=>c (by omega)
theorem EH(g:Graph)(U:List Int)(B L:Nat)(S:GG B g)(P:GU L g)(hB:B<=1048576)(hL:L<=2111):FnOk Tryz.prog 29 [H4 g,O6 U] (fun rs=>∃W,rs=[H4 W]/\GG B W/\GV W):=by
 have ag:=S.len;refine FnOk.intro Tryz.func29 (by decide) Z Z Z Z ?_;refine k2 ?_;refine A7 (A6 (A9 Z Z) Z (B0 ?_));refine k1 (k2 (k2 ?_));refine A7 (A6 (A8 Z Z) Z (D1 (bG U 3 (by omega) (by omega)) Z Z Z ?_));rintro _ rfl;refine A6 (iC Z Z (by omega)) Z (A6 (K4 Z Z) Z (B0 ?_));refine k1 ?_;refine B9 rfl (fun J=>?_) (fun J=>?_)
 ·refine k2 ?_;refine A7 (A6 (A8 Z Z) Z (A6 (A9 Z Z) Z (B0 ?_)));refine k1 (I9 (N4 ?_));exact C2 (rs:=[H4 g]) (J5 rfl rfl rfl) ⟨g,rfl,S,GU.valid S hB hL (.inl P.up) P.nice P.tree⟩
 refine k5 (k1 (k2 ?_));refine A7 (A6 (A8 Z Z) Z (A6 (F0 Z (.pure _ _ _ _)) Z (A6 (A9 Z Z) Z (B0 ?_))));refine k1 (k2 ?_);refine A7 (A6 (A8 Z Z) Z (D6 (aZ 760 Commit H3 ⟨[],0,[]⟩ Z Z (by omega) (by omega) (fun _=>by first | exact⟨⟨rfl,rfl⟩,trivial⟩ | exact⟨I5 _ _ _,trivial⟩ | exact⟨I5 _ _ _,⟨rfl,rfl⟩,I5 _ _ _,trivial⟩ | exact⟨⟨rfl,rfl⟩,⟨rfl,rfl⟩,trivial⟩) (by first | rfl | (simp[I2,M9,Ob.free,SV.free,S1.free,TC.free]<;>rfl))) Z ?_));refine A6 (A9 Z Z) Z (B0 ?_);rw[WV];refine k1 (k2 (k2 ?_));refine A7 (A6 (A9 Z Z) Z (B0 ?_));refine k1 (k3 ?_)
 refine E4 (X:=Nat×List Commit) (fun x=>([(0,E3 Commit 3 H3 g),(5,C7 g.length),(6,.s (.one (.mut 760))),(7,C7 x.1)],[(760,.arr Commit 3 H3 x.2)])) (fun x=>x.1<=g.length/\x.2.length=g.length/\(∀y∈x.2,y.Parents.length<=3/\∀p∈y.Parents,0<=p/\p<(g.length:Int))/\(∀y∈x.2,GF B y.Files)/\(∀y∈x.2,(y.Parents.Nodup/\0<=y.Date/\y.Date<=5)/\GN L y.Files)/\∀j p:Nat,(p:Int)∈E1 x.2 j->j<p) (fun x=>g.length-x.1) (0,List.replicate g.length ⟨[],0,[]⟩) ⟨Nat.zero_le _,XT,fun y w=>by rw[(List.mem_replicate.1 w).2];exact⟨by simp,fun p hp=>by cases hp⟩,fun y w=>by rw[(List.mem_replicate.1 w).2];exact⟨by simp,fun f R=>by cases R⟩,fun y w=>by rw[(List.mem_replicate.1 w).2];exact⟨⟨List.nodup_nil,by decide,by decide⟩,List.nil_sublist _,(fun f R=>by cases R),fun f R=>by cases R⟩,fun j p h=>by
  unfold E1 at h;rw[List.getElem?_replicate]at h
  split at h<;>cases h⟩ (Sees.of ⟨B4 rfl,B4 rfl,B4 rfl,B4 rfl,trivial⟩ ⟨rfl,trivial⟩) ?_
 rintro⟨c,o⟩ ⟨hc,F,H,E,G,M⟩;dsimp only at hc F H E G M ⊢;refine k2 (k2 ?_);refine A7 (A6 (A8 Z Z) Z (A6 (A8 Z Z) Z (A6 (F3 Z Z) Z (B0 ?_))));refine k1 ?_;refine B9 rfl (fun J=>?_) (fun J=>?_);rotate_left
 ·refine k6 (k2 ?_);refine G8 (Sees.freeze (k:=760) Z) ?_;refine A7 (A6 (A8 Z Z) Z (A6 (A9 Z Z) Z (B0 ?_)));refine k1 (I9 ?_);exact C2 (rs:=[H4 o]) (J5 rfl rfl rfl) ⟨o,rfl,⟨by omega,by rw[F];exact H,E⟩,GU.valid (B:=B) ⟨by omega,by rw[F];exact H,E⟩ hB hL (.inr M) (fun y w=>(G y w).1) fun y w=>(G y w).2⟩
 have D:c<g.length:=by have z:=A0 J;(try dsimp only at z);omega
 obtain⟨d,K⟩:∃d,d=g[c]:=⟨_,rfl⟩
 have hv:g[c]?=some d:=by rw[K];simp[D]
 have V:d∈g:=by rw[K];exact WY D
 obtain⟨ah,hpr⟩:=S.pars d V;have Y:=S.files d V;have Q:=P.nice d V;have ab:=P.tree d V;have ac:∀q∈d.Parents,q<(c:Int):=fun q C=>by
  have z:=P.up c q.toNat (by rw[X8 D,<-K,Int.toNat_of_nonneg (hpr q C).1];exact C)
  have:=(hpr q C).1;omega
 refine k5 (k1 (k2 (k3 (k2 ?_))));refine A7 (A6 (A8 Z Z) Z (A6 (A8 Z Z) Z (A6 (B8 Z (.pure _ _ _ _) Z (by omega) hv) Z (A6 (G7 Z Z) Z (D6 (I1 8 Z) Z (F7 (C1 TySz.out Z Z Z Z Z Z) (B0 ?_)))))));refine k1 (k2 ?_);refine A7 (A6 (B1 Z) Z (F7 (C1 TySz.out Z Z Z Z Z Z) (B0 ?_)));refine k1 (k2 (k2 ?_));refine G8 (WF 753 Int 1 G1 3 (kb:=8) (o:=0) Z Z Z) ?_;refine A7 (A6 (A9 Z Z) Z (B0 ?_));refine k1 (k3 ?_);refine E4 (X:=Nat×List Int) (fun x=>([(0,E3 Commit 3 H3 g),(5,C7 g.length),(6,.s (.one (.mut 760))),(7,C7 c),(8,.s (.one (.ref 8 0))),(9,C7 x.1)],[(8,.box [.buf 753 Int 1 G1 x.2,.p (.v (.int .i64 d.Date)),.p (.list File 2 Z9 d.Files)]),(753,.spare x.2.length 1 3),(760,.arr Commit 3 H3 o)])) (fun x=>x.1<=d.Parents.length/\x.2=(d.Parents.take x.1).map fun q=>(g.length:Int)-1-q) (fun x=>d.Parents.length-x.1) (0,[]) ⟨Nat.zero_le _,rfl⟩ (Sees.of ⟨B4 rfl,B4 rfl,B4 rfl,B4 rfl,B4 rfl,B4 rfl,trivial⟩ ⟨rfl,rfl,rfl,trivial⟩) ?_;rintro⟨p,ps⟩ ⟨hp,I⟩;dsimp only at hp I ⊢;have ai:ps.length=p:=by rw[I,XW,XG];omega
 refine k2 (k2 ?_);refine A7 (A6 (A8 Z Z) Z (A6 (A8 Z Z) Z (A6 (A8 Z Z) Z (A6 (B8 Z (.pure _ _ _ _) Z (by omega) hv) Z (A6 (C9 Z) Z (A6 (C0 Z Z) Z (A6 (F0 Z (.pure _ _ _ _)) Z (A6 (F3 Z Z) Z (B0 ?_)))))))));refine k1 ?_;refine B9 rfl (fun J=>?_) (fun J=>?_)
 ·have A:p<d.Parents.length:=by have z:=A0 J;(try dsimp only at z);omega
  obtain⟨q,C⟩:∃q,q=d.Parents[p]:=⟨_,rfl⟩
  have T:d.Parents[p]?=some q:=by rw[C];simp[A]
  have aj:=hpr q (by rw[C];exact WY A);refine k5 (k1 (k2 (k3 ?_)));refine D7 (by kernel_rfl) (by kernel_rfl) (B3 (B1 Z) Z Z (B3 (B2 Z Z Z) Z Z (B3 (A8 Z Z) Z Z (B3 (O5 Z Z (by omega)) Z Z (B3 (A8 Z Z) Z Z (B3 (A8 Z Z) Z Z (B3 (B8 Z (.pure _ _ _ _) Z (by omega) hv) Z Z (B3 (C9 Z) Z Z (B3 (C0 Z Z) Z Z (B3 (A8 Z Z) Z Z (B3 (B8 Z (.pure _ _ _ _) Z (by omega) T) Z Z (B3 (C0 Z Z) Z Z (B3 (O5 Z Z (by omega)) Z Z (B3 (D9 (c:=G1) (ys:=[(g.length:Int)-1-q]) (D8 Z Z Z Z H5) Z Z Z) Z Z (LI (N6 Z Z Z (.pure _ _ _ _) (by (simp only[WW,XD];omega)) Z) Z Z (B3 (B1 Z) Z Z (uH (C1 TySz.out Z Z Z Z Z Z) Z (M5 ?_))))))))))))))))));refine k4 (k1 ?_);refine A7 (A6 (A8 Z Z) Z (A6 (D5 Z Z (by omega)) Z (A6 (A9 Z Z) Z (B0 ?_))));refine k1 ?_;refine⟨(p+1,ps++[(g.length:Int)-1-q]),⟨A,by dsimp only;rw[xX T,YC,<-I];rfl⟩,by dsimp only;omega,(Sees.of ⟨B4 rfl,B4 rfl,B4 rfl,B4 rfl,B4 rfl,B4 rfl,trivial⟩ ⟨rfl,rfl,rfl,trivial⟩)⟩
 have af:¬(p:Int)<d.Parents.length:=A1 J;have O:ps=d.Parents.map fun q=>(g.length:Int)-1-q:=by rw[I,XN (by omega)]
 have ad:∀x∈ps,0<=x/\x<(g.length:Int):=fun x hx=>by
  rw[O]at hx;obtain⟨q,C,rfl⟩:=XU.1 hx;have:=hpr q C;omega
 have hi:0<=(g.length:Int)-1-c/\(g.length:Int)-1-c<o.length:=by omega
 have ae:o[((g.length:Int)-1-c).toNat]?=some o[((g.length:Int)-1-c).toNat]:=WT (by omega);refine k6 (k7 (k7 (k8 Z (k1 ?_))));refine A7 (A6 (A8 Z Z) Z (A6 (A8 Z Z) Z (A6 (O5 Z Z (by omega)) Z (A6 (A8 Z Z) Z (A6 (O5 Z Z (by omega)) Z (A6 (F1 Z Z Z) Z (A6 (E2 Z Z Z (by omega) (by omega)) Z (F7 (y3 (y:=⟨ps,d.Date,d.Files⟩) TySz.out Z Z ae Z Z Z Z (fun _ _ us h=>by first | exact m6 h | (match us,h with | [_,_,_],h=>exact⟨h.1.2,h.2.1,h.2.2.1,trivial⟩)) (by intro j z h2;rcases j with _ | _ | _ | j<;>first | rfl | omega)) ?_))))))));refine B0 ?_;refine k4 (k1 ?_);refine A7 (A6 (A8 Z Z) Z (A6 (D5 Z Z (by omega)) Z (A6 (A9 Z Z) Z (B0 ?_))));refine k1 ?_;refine⟨(c+1,o.set ((g.length:Int)-1-c).toNat ⟨ps,d.Date,d.Files⟩),⟨D,by dsimp only;rw[XX];exact F,fun y w=>?_,fun y w=>?_,fun y w=>?_,fun j p hj=>?_⟩,by dsimp only;omega,(Sees.of ⟨B4 rfl,B4 rfl,B4 rfl,B4 rfl,trivial⟩ ⟨rfl,trivial⟩)⟩
 ·rcases List.mem_or_eq_of_mem_set w with w | rfl
  ·exact H y w
  ·exact⟨by dsimp only;omega,ad⟩
 ·rcases List.mem_or_eq_of_mem_set w with w | rfl
  ·exact E y w
  ·exact Y
 ·rcases List.mem_or_eq_of_mem_set w with w | rfl
  ·exact G y w
  ·exact⟨⟨by rw[O];exact EG _ Q.1,Q.2⟩,ab⟩
 ·rcases EF j hj with ⟨e,z⟩ | z
  ·dsimp only at z;rw[O]at z;obtain⟨q,C,e2⟩:=XU.1 z;have:=ac q C;omega
  ·exact M j p z
set_option maxHeartbeats 2000000
def rN:Nat->Nat
 | 0=>0
 | c+1=>5*rN c+64
def pI:Nat->Nat
 | 0=>32
 | c+1=>2*pI c+1
theorem PD(c:Nat)(h:c<=6):(32<=pI c/\rN c<=250000)/\pI c<=2111:=by
 match c,h with
 | 0,_=>decide
 | 1,_=>decide
 | 2,_=>decide
 | 3,_=>decide
 | 4,_=>decide
 | 5,_=>decide
 | 6,_=>decide
theorem GG.mono{B B':Nat}{g:Graph}(h:GG B g)(a:B<=B'):GG B' g:=⟨h.len,h.pars,fun c b=>(h.files c b).mono a⟩
theorem IY(w:List Int)(n z:Int)(hn:0<=n/\n<=6)(hl:0<=z/\z<=16):FnOk Tryz.prog 7 [O6 w,E8 n,E8 z] (fun rs=>∃g,rs=[H4 g]/\GG 250000 g/\GV g):=by
 have au:=T3 (Z8 w 0) (n:=n+1) (by omega);obtain⟨m,hm⟩:∃m:Nat,R5 (Z8 w 0) (n+1)=(m:Int):=⟨(R5 (Z8 w 0) (n+1)).toNat,by omega⟩
 have ar:m<=6:=by omega
 refine FnOk.intro Tryz.func7 (by decide) Z Z Z Z ?_;refine k2 ?_;refine A7 (A6 (A9 Z Z) Z (B0 ?_));refine k1 (k2 ?_);refine A7 (A6 (A8 Z Z) Z (D1 (bG w 0 (by omega) (by omega)) Z Z Z ?_));rintro _ rfl;refine A6 (A8 Z Z) Z (A6 (D5 Z Z (by omega)) Z (D1 (cC (Z8 w 0) (n+1) (by omega) (by omega)) Z Z Z ?_));rintro _ rfl;refine A6 (A9 Z Z) Z (B0 ?_);rw[hm];refine k1 (k2 ?_);refine A7 (D6 (CW 7 (c:=H3) (ys:=([]:List Commit)) H5 Z Z Z (by first | rfl | (simp[I2,M9,Ob.free,SV.free,S1.free,TC.free]<;>rfl))) Z ?_);refine A6 (A9 Z Z) Z (B0 ?_);refine k1 (k2 (k2 ?_));refine A7 (A6 (A9 Z Z) Z (B0 ?_));refine k1 (k3 ?_);refine E4 (X:=Nat×List Commit) (fun x=>([(0,E3 Int 1 G1 w),(1,C7 m),(2,C7 z),(7,.s (.one (.buf 7 Commit 3 H3 x.2))),(8,C7 x.1)],[(7,.spare x.2.length 3 32)])) (fun x=>x.1<=m/\x.2.length=x.1/\(∀y∈x.2,y.Parents.length<=3/\∀p∈y.Parents,0<=p/\p<(x.1:Int))/\(∀y∈x.2,GF (rN x.1) y.Files)/\GU (pI x.1) x.2) (fun x=>m-x.1) (0,[]) ⟨Nat.zero_le _,rfl,(fun _ h=>by cases h),(fun _ h=>by cases h),(fun _ _ h=>by cases h),(fun _ h=>by cases h),(fun _ h=>by cases h)⟩ (Sees.of ⟨B4 rfl,B4 rfl,B4 rfl,B4 rfl,B4 rfl,trivial⟩ ⟨rfl,trivial⟩) ?_;rintro⟨c,E⟩ ⟨hc,P,I,H,D⟩;dsimp only at hc P I H D ⊢;obtain⟨⟨ac,aq⟩,ad⟩:=PD c (by omega);refine k2 (k2 ?_);refine A7 (A6 (A8 Z Z) Z (A6 (A8 Z Z) Z (A6 (F3 Z Z) Z (B0 ?_))));refine k1 ?_;refine B9 rfl (fun B=>?_) (fun B=>?_);rotate_left
 ·refine k6 (k2 ?_);refine A7 (A6 (A8 Z Z) Z (A6 (A8 Z Z) Z (D1 (EH E w (rN c) (pI c) ⟨by omega,by rw[P];exact I,H⟩ D (by omega) ad) Z Z Z ?_)));rintro _ ⟨g',rfl,ak,ao⟩;refine A6 (A9 Z Z) Z (B0 ?_);refine k1 (I9 ?_);exact C2 (rs:=[H4 g']) (J5 rfl rfl rfl) ⟨g',rfl,GG.mono ak (by omega),ao⟩
 have al:c<m:=by have J:=A0 B;(try dsimp only at J);omega
 refine k5 (k1 (k2 (k3 (k2 ?_))));refine A7 (A6 (A8 Z Z) Z (A6 (A8 Z Z) Z (A6 (D5 Z Z (by omega)) Z (D1 (bG w (1000+(c:Int)) (by omega) (by omega)) Z Z Z ?_))));rintro _ rfl;refine D1 (cC (Z8 w (1000+(c:Int))) 5 (by omega) (by omega)) Z Z Z ?_;rintro _ rfl;refine A6 (H1 Z) Z (D6 (I1 9 Z) Z (F7 (C1 TySz.out Z Z Z Z Z Z) (B0 ?_)));have ag:=T3 (Z8 w (1000+(c:Int))) (n:=5) (by omega);obtain⟨d,hd⟩:∃d,d=R5 (Z8 w (1000+(c:Int))) 5:=⟨_,rfl⟩
 rw[<-hd]at ag ⊢;refine k1 (k2 (k2 ?_));refine G8 (WF 753 Int 1 G1 3 (kb:=9) (o:=0) Z Z Z) ?_;refine A7 (A6 (A9 Z Z) Z (B0 ?_));refine k1 (k3 ?_);refine E4 (X:=Nat×List Int) (fun x=>([(0,E3 Int 1 G1 w),(1,C7 m),(2,C7 z),(7,.s (.one (.buf 7 Commit 3 H3 E))),(8,C7 c),(9,.s (.one (.ref 9 0))),(10,C7 x.1)],[(7,.spare E.length 3 32),(9,.box [.buf 753 Int 1 G1 x.2,.p (.v (.int .i64 d)),.p (.v (.slice none 0 0))]),(753,.spare x.2.length 1 3)])) (fun x=>x.1<=c/\x.2.length<=3/\(∀q∈x.2,0<=q/\q<(x.1:Int))/\x.2.Nodup) (fun x=>c-x.1) (0,[]) ⟨Nat.zero_le _,by simp,(fun _ h=>by cases h),List.nodup_nil⟩ (Sees.of ⟨B4 rfl,B4 rfl,B4 rfl,B4 rfl,B4 rfl,B4 rfl,B4 rfl,trivial⟩ ⟨rfl,rfl,rfl,trivial⟩) ?_;rintro⟨p,ps⟩ ⟨hp,Q,F,hpn⟩;dsimp only at hp Q F hpn ⊢;refine k2 (k2 ?_);refine A7 (A6 (A8 Z Z) Z (A6 (A8 Z Z) Z (A6 (F3 Z Z) Z (B0 ?_))));refine k1 ?_;refine B9 rfl (fun B=>?_) (fun B=>?_)
 ·have L:p<c:=by have J:=A0 B;(try dsimp only at J);omega
  refine k5 (k1 (k2 (k3 (k2 ?_))));refine A7 (A6 (A8 Z Z) Z (A6 (A8 Z Z) Z (A6 (cO Z Z (by omega)) Z (A6 (D5 Z Z (by omega)) Z (A6 (A8 Z Z) Z (A6 (D5 Z Z (by omega)) Z (D1 (bG w (1100+40*(c:Int)+(p:Int)) (by omega) (by omega)) Z Z Z ?_)))))));rintro _ rfl;refine A6 (iC Z Z (by omega)) Z (A6 (K4 Z Z) Z (A6 (A8 Z Z) Z (B6 Z Z Z Z (fun k=>by rw[k];exact B1 Z) ?_)));refine B6 Z Z Z Z (fun k=>by rw[k];exact B2 Z Z Z) ?_;refine B6 Z Z Z Z (fun k=>by rw[k];exact F0 Z (.buf _ _ _ _ _)) ?_;refine B6 Z Z Z Z (fun k=>by rw[k];exact F3 Z Z) ?_;refine A6 (C6 Z (fun h=>by first | rfl | (rw[h];rfl)) (fun h=>by first | rfl | (rw[h];rfl))) Z ?_;refine B0 ?_;refine k1 ?_;refine B9 rfl (fun B=>?_) (fun B=>?_)
  ·have h2:=(A0 (and_pick.symm.trans B)).2;skip;refine A7 (A6 (B1 Z) Z (A6 (B2 Z Z Z) Z (A6 (A8 Z Z) Z (A6 (D9 (c:=G1) (ys:=[(p:Int)]) (D8 Z Z Z Z H5) Z Z Z) Z (D6 (N6 Z Z Z (.pure _ _ _ _) (by (simp only[WW,XD];omega)) Z) Z (A6 (B1 Z) Z (F7 (C1 TySz.out Z Z Z Z Z Z) (B0 ?_))))))));refine k4 (k1 ?_);refine A7 (A6 (A8 Z Z) Z (A6 (D5 Z Z (by omega)) Z (A6 (A9 Z Z) Z (B0 ?_))));refine k1 ?_;refine⟨(p+1,ps++[(p:Int)]),⟨L,by rw[WX,List.length_singleton];omega,fun x T=>?_,?_⟩,by dsimp only;omega,(Sees.of ⟨B4 rfl,B4 rfl,B4 rfl,B4 rfl,B4 rfl,B4 rfl,B4 rfl,trivial⟩ ⟨rfl,rfl,rfl,trivial⟩)⟩
   ·rcases WZ.1 T with T | T
    ·have:=F x T;dsimp only;omega
    ·rw[List.mem_singleton.1 T];dsimp only;omega
   ·dsimp only;refine List.nodup_append.2 ⟨hpn,by simp,fun a ha b hb e=>?_⟩;have:=F a ha;rw[e,List.mem_singleton.1 hb]at this;omega
  ·refine k5 (k4 (k1 ?_));refine A7 (A6 (A8 Z Z) Z (A6 (D5 Z Z (by omega)) Z (A6 (A9 Z Z) Z (B0 ?_))));refine k1 ?_;exact⟨(p+1,ps),⟨L,Q,fun x T=>by have:=F x T;dsimp only;omega,hpn⟩,by dsimp only;omega,(Sees.of ⟨B4 rfl,B4 rfl,B4 rfl,B4 rfl,B4 rfl,B4 rfl,B4 rfl,trivial⟩ ⟨rfl,rfl,rfl,trivial⟩)⟩
 refine k6 (k2 (k2 ?_));refine A7 (A6 (B1 Z) Z (A6 (B2 Z Z Z) Z (A6 (F0 Z (.buf _ _ _ _ _)) Z (A6 (K4 Z Z) Z (A6 (A8 Z Z) Z (B6 Z Z Z Z (fun k=>by rw[k];exact A8 Z Z) ?_))))));refine B6 Z Z Z Z (fun k=>by rw[k];exact P5 Z Z) ?_;refine A6 (C6 Z (fun h=>by first | rfl | (rw[h];rfl)) (fun h=>by first | rfl | (rw[h];rfl))) Z ?_;refine A6 (A8 Z Z) Z (B6 Z Z Z Z (fun k=>by rw[k];exact A8 Z Z) ?_);refine B6 Z Z Z Z (fun k=>by rw[k];exact A8 Z Z) ?_;refine B6 Z Z Z Z (fun k=>by have C:=k;(try simp at C);rw[k];exact D5 Z Z (by omega)) ?_;refine B6 Z Z Z Z (fun k=>by have C:=k;(try simp at C);rw[k];exact I4 (bG w (1500+(c:Int)) (by omega) (by omega)) Z Z) ?_;refine B6 Z Z Z Z (fun k=>by have C:=k;(try simp at C);rw[k];exact iC Z Z (by omega)) ?_;refine B6 Z Z Z Z (fun k=>by rw[k];exact P5 Z Z) ?_;refine A6 (C6 Z (fun h=>by first | rfl | (rw[h];rfl)) (fun h=>by first | rfl | (rw[h];rfl))) Z ?_;refine B0 ?_;refine k1 ?_;refine rB (X:=List Int) (fun G=>([(0,E3 Int 1 G1 w),(1,C7 m),(2,C7 z),(7,.s (.one (.buf 7 Commit 3 H3 E))),(8,C7 c),(9,.s (.one (.ref 9 0)))],[(7,.spare E.length 3 32),(9,.box [.p (.list Int 1 G1 G),.p (.v (.int .i64 d)),.p (.v (.slice none 0 0))])])) (fun G=>G.length<=3/\(∀q∈G,0<=q/\q<(c:Int))/\G.Nodup) ?_ ?_
 ·refine B9 rfl (fun B=>?_) (fun B=>?_)
  ·rw[vR,vR,WU,WU]at B;have h2:=A0 B.1.2;skip;refine A7 (A6 (A8 Z Z) Z (A6 (O5 Z Z (by omega)) Z (A6 (D9 (c:=G1) (ys:=[(c:Int)-1]) (D8 Z Z Z Z H5) Z Z Z) Z (A6 (B1 Z) Z (F7 (C1 TySz.out Z Z Z Z Z Z) (B0 ?_))))));refine k1 ?_;exact⟨[(c:Int)-1],⟨by simp,fun q C=>by rw[List.mem_singleton.1 C];omega,by simp⟩,Sees.trans (WJ 9 0 rfl rfl rfl) (Sees.of ⟨B4 rfl,B4 rfl,B4 rfl,B4 rfl,B4 rfl,B4 rfl,trivial⟩ ⟨rfl,rfl,trivial⟩)⟩
  ·refine k5 (k1 ?_);exact⟨ps,⟨Q,fun q C=>by have:=F q C;omega,hpn⟩,Sees.trans (WJ 9 0 rfl rfl rfl) (Sees.of ⟨B4 rfl,B4 rfl,B4 rfl,B4 rfl,B4 rfl,B4 rfl,trivial⟩ ⟨rfl,rfl,trivial⟩)⟩
 rintro G ⟨am,S,an⟩;dsimp only;refine k2 ?_;refine A7 (A6 (A8 Z Z) Z (A6 (A8 Z Z) Z (A6 (cO Z Z (by omega)) Z (A6 (D5 Z Z (by omega)) Z (A6 (A8 Z Z) Z (D1 (vH w (2000+200*(c:Int)) z (by omega) hl) Z Z Z ?_))))));rintro _ ⟨fl,rfl,ah,ai⟩;refine A6 (B1 Z) Z (F7 (C1 TySz.out Z Z Z Z Z Z) (B0 ?_));refine k1 (k2 (k2 ?_));refine A7 (A6 (B1 Z) Z (A6 (B2 Z Z Z) Z (A6 (F0 Z (.pure _ _ _ _)) Z (A6 (P5 Z Z) Z (A6 (A8 Z Z) Z (B6 Z Z Z Z (fun k=>by rw[k];exact A8 Z Z) ?_))))));refine B6 Z Z Z Z (fun k=>by rw[k];exact A8 Z Z) ?_;refine B6 Z Z Z Z (fun k=>by have C:=k;(try simp at C);rw[k];exact D5 Z Z (by omega)) ?_;refine B6 Z Z Z Z (fun k=>by have C:=k;(try simp at C);rw[k];exact I4 (bG w (1600+(c:Int)) (by omega) (by omega)) Z Z) ?_;refine B6 Z Z Z Z (fun k=>by have C:=k;(try simp at C);rw[k];exact iC Z Z (by omega)) ?_;refine B6 Z Z Z Z (fun k=>by rw[k];exact P5 Z Z) ?_;refine A6 (C6 Z (fun h=>by first | rfl | (rw[h];rfl)) (fun h=>by first | rfl | (rw[h];rfl))) Z ?_;refine B0 ?_;refine k1 ?_;refine rB (X:=List File) (fun M=>([(0,E3 Int 1 G1 w),(1,C7 m),(2,C7 z),(7,.s (.one (.buf 7 Commit 3 H3 E))),(8,C7 c),(9,.s (.one (.ref 9 0)))],[(7,.spare E.length 3 32),(9,.box [.p (.list Int 1 G1 G),.p (.v (.int .i64 d)),.p (.list File 2 Z9 M)])])) (fun M=>GF (rN (c+1)) M/\GN (pI (c+1)) M) ?_ ?_
 ·refine B9 rfl (fun B=>?_) (fun B=>?_)
  ·rw[vR,WU]at B;have h2:=A0 B.1;obtain⟨q,qr,rfl⟩:∃q qr,G=q::qr:=by
    cases G with
    | nil=>simp at h2
    | cons q qr=>exact⟨q,qr,rfl⟩
   have av:=S q (by simp);have R:q.toNat<E.length:=by omega
   obtain⟨U,O⟩:∃U,U=E[q.toNat]:=⟨_,rfl⟩
   have ap:E[q.toNat]?=some U:=by rw[O];simp[R]
   have ae:=H U (by rw[O];exact WY R);have af:=D.tree U (by rw[O];exact WY R);skip;refine A7 (A6 (A8 Z Z) Z (A6 (B1 Z) Z (A6 (B2 Z Z Z) Z (A6 (B8 Z (.pure _ _ _ _) Z (by omega) (show (q::qr)[Int.toNat 0]?=some q from Z)) Z (A6 (C0 Z Z) Z (A6 (B8 Z (.buf _ _ _ _ _) Z (by omega) ap) Z (A6 (C9 Z) Z (A6 (C0 Z Z) Z (A6 (A8 Z Z) Z (A6 (A8 Z Z) Z (A6 (cO Z Z (by omega)) Z (A6 (D5 Z Z (by omega)) Z (A6 (A8 Z Z) Z (D1 (EE U.Files w (2000+200*(c:Int)) z (rN c) (pI c) ae af ac (by omega) (by omega) hl) Z Z Z ?_))))))))))))));rintro _ ⟨ab,rfl,V,W⟩;refine A6 (B1 Z) Z (F7 (C1 TySz.out Z Z Z Z Z Z) (B0 ?_));refine k1 ?_;exact⟨ab,⟨V,W⟩,(Sees.of ⟨B4 rfl,B4 rfl,B4 rfl,B4 rfl,B4 rfl,B4 rfl,trivial⟩ ⟨rfl,rfl,trivial⟩)⟩
  ·refine k5 (k1 ?_);exact⟨fl,⟨ah.mono (show 64<=rN (c+1) by rw[rN];omega),ai.mono (show 64<=pI (c+1) by rw[pI];omega)⟩,(Sees.of ⟨B4 rfl,B4 rfl,B4 rfl,B4 rfl,B4 rfl,B4 rfl,trivial⟩ ⟨rfl,rfl,trivial⟩)⟩
 rintro M ⟨aj,Y⟩;dsimp only;skip;refine A7 (A6 (A8 Z Z) Z (A6 (F1 Z Z Z) Z (A6 (D9 (c:=H3) (ys:=[⟨G,d,M⟩]) (D8 Z Z Z Z H5) Z Z Z) Z (D6 (N6 Z Z Z (.pure _ _ _ _) (by (simp only[WW,XD];omega)) Z) Z (A6 (A9 Z Z) Z (B0 ?_))))));refine k4 (k1 ?_);refine A7 (A6 (A8 Z Z) Z (A6 (D5 Z Z (by omega)) Z (A6 (A9 Z Z) Z (B0 ?_))));refine k1 ?_;refine⟨(c+1,E++[⟨G,d,M⟩]),⟨al,by dsimp only;rw[WX,List.length_singleton,P],fun y A=>?_,fun y A=>?_,fun j p K=>?_,fun y A=>?_,fun y A=>?_⟩,by dsimp only;omega,(Sees.of ⟨B4 rfl,B4 rfl,B4 rfl,B4 rfl,B4 rfl,trivial⟩ ⟨rfl,trivial⟩)⟩
 ·rcases WZ.1 A with A | A
  ·exact⟨(I y A).1,fun p hp=>by have:=(I y A).2 p hp;dsimp only;omega⟩
  ·rw[List.mem_singleton.1 A];exact⟨am,fun p hp=>by have:=S p hp;dsimp only;omega⟩
 ·rcases WZ.1 A with A | A
  ·exact (H y A).mono (show rN c<=rN (c+1) by rw[rN];omega)
  ·rw[List.mem_singleton.1 A];exact aj
 ·dsimp only at K;unfold E1 at K;rcases Nat.lt_trichotomy j E.length with J | J | J
  ·rw[XM J]at K;exact D.up j p K
  ·subst J;rw[List.getElem?_concat_length]at K;have:=S p K;omega
  ·rw[XP (by rw[WX,List.length_singleton];omega)]at K;cases K
 ·rcases WZ.1 A with A | A
  ·exact D.nice y A
  ·rw[List.mem_singleton.1 A];exact⟨an,by dsimp only;omega,by dsimp only;omega⟩
 ·rcases WZ.1 A with A | A
  ·exact (D.tree y A).mono (show pI c<=pI (c+1) by rw[pI];omega)
  ·rw[List.mem_singleton.1 A];exact Y
set_option maxHeartbeats 1000000
theorem getO_mapO(f:Ob->Ob):∀(ob:Obs) (j:Nat),C5 (VY f ob) j=(C5 ob j).map f
 | [],_=>rfl
 | (i,o)::r,j=>by
  show C5 ((i,f o)::VY f r) j=_;by_cases e:i=j
  ·subst e;rw[F4,F4];rfl
  ·rw[C8 e,C8 e,getO_mapO f r j]
abbrev auto5:AL.Auto:=⟨[UZ,VA,VT,TO,TO,VB],5⟩
abbrev aa:Str:=[97,97]
structure AS where
 opn:List Int
 th:List AL.Thread
 sn:List Bool
def IZ(x:AS):Int:=I8 x.opn (x.opn.length-1)
def PE(a:Nat)(fr:Int)(x:AS):AS :=
 if L4 x.sn (IZ x).toNat=true then ⟨x.opn.take (x.opn.length-1),x.th,x.sn⟩
 else ⟨x.opn.take (x.opn.length-1)++HO (auto5.States.getD (IZ x).toNat eJ) (decide ((a:Int)=0)) (decide ((a:Int)=(aa.length:Int))),x.th++[⟨IZ x,fr⟩],x.sn.set (IZ x).toNat true⟩
def QI(a:Nat)(fr:Int)(x:AS):Nat->AS
 | 0=>x
 | n+1=>PE a fr (QI a fr x n)
def EI(y:AS):Prop:=0<y.opn.length/\y.opn.length<=10/\0<=IZ y/\IZ y<6/\y.sn.length=6/\y.th.length<=10
instance (y:AS):Decidable (EI y):=by unfold EI;infer_instance
def addOk(a:Nat)(fr:Int)(x:AS)(n:Nat):Bool:=(List.range n).all (fun k=>decide (EI (QI a fr x k)))
end Go.Proofs.YtbflhoahmmfkmaaGreatDoor
