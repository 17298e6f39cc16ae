/- Walks of the program's functions. -/
import Derived.Test.YtfhbolepaojekaaGreatDoorFd
import Derived.Test.YtfhbolepaojekaaGreatDoorFs
import Derived.Test.YtfhbolepaojekaaGreatDoorFc
set_option linter.unusedSimpArgs false
namespace Go.Proofs.YtfhbolepaojekaaGreatDoor
open Go Go.AL
set_option maxRecDepth 100000
set_option maxHeartbeats 1000000
theorem tid_old {gf:Fr} {ob:Obs} (names:List Str) (s:Str) (hs:s∈names) (h0:B9 ob 710=some (.box [.mut 711,.buf 712 Str 1 P9 names])) (h1:B9 ob 711=some (.map Str m9 (z6 names 0))) :
  AL.Met Tryz.prog 130 [.one (.ref 710 0),.one (.p (.v (.string ⟨s.toArray⟩)))] gf ob [] (fun rs ob'=>rs=[.one (.p (.v (.int .i64 (R4 names s 0))))]∧ob'=ob):=by
 have hg:=F07 s names 0 hs
 refine AL.Met.intro Tryz.func130 (by decide) V V V ?_
 refine k2 (A2 (A6 V V (A4 ?_)));refine k1 (k2 (A2 (A3 V V (A5 (B4 V) V (A5 (A9 V) V (A5 (C4 V h0 V) V (A3 V V (A5 (B30 (s) (r:=some (.v (.int .i64 (R4 names s 0)))) V h1 V t8 u0 (hg)) V (A3 V V (H0 V V V (H0 V V V (A6 V V (A6 V V (A4 ?_))))))))))))));refine k1 (k2 (k2 (A2 (A3 V V (A5 (R7 V) V (A4 ?_))))));refine k1 ?_;refine B0 rfl (fun ht=>?_) (fun ht=>?_)
 ·cases ht
 refine k5 (k1 (k2 (A2 (A3 V V (A6 V V (A4 ?_))))));refine k1 (k10 ?_)
 exact G5 (K6 rfl rfl) (by repeat (first | exact B2 | refine B3 rfl ?_ | refine D5 _ ?_)) (fun _ _ h=>h) ⟨rfl,rfl⟩
theorem tid_new {gf:Fr} {ob:Obs} (names:List Str) (s:Str) (hs:s∉names) (hl:names.length≤1073741823) (h0:B9 ob 710=some (.box [.mut 711,.buf 712 Str 1 P9 names])) (h1:B9 ob 711=some (.map Str m9 (z6 names 0)))
  (h2:B9 ob 712=some (.spare names.length 1 9)) :
  AL.Met Tryz.prog 130 [.one (.ref 710 0),.one (.p (.v (.string ⟨s.toArray⟩)))] gf ob [712] (fun rs ob'=>rs=[.one (.p (.v (.int .i64 names.length)))]∧ob'=(710,.box [.mut 711,.buf 712 Str 1 P9 (names++[s])])::(712,.spare (names++[s]).length 1 9)::Obs.forget 712 ((711,.map Str m9 (z6 names 0++[(s,.v (.int .i64 names.length))]))::ob)):=by
 have hg:=E31 s names 0 hs
 refine AL.Met.intro Tryz.func130 (by decide) V V V ?_
 refine k2 (A2 (A6 V V (A4 ?_)));refine k1 (k2 (A2 (A3 V V (A5 (B4 V) V (A5 (A9 V) V (A5 (C4 V h0 V) V (A3 V V (A5 (B30 (s) (r:=none) V h1 V t8 u0 (hg)) V (A3 V V (H0 V V V (H0 V V V (A6 V V (A6 V V (A4 ?_))))))))))))));refine k1 (k2 (k2 (A2 (A3 V V (A5 (R7 V) V (A4 ?_))))));refine k1 ?_;refine B0 rfl (fun ht=>?_) (fun ht=>?_)
 ·refine k2 (A2 (A3 V V (A5 (B4 V) V (A5 (A9 V) V (A5 (C4 V h0 V) V (A5 (U0 V (.buf _ _ _ _ _)) V (A6 V V (A4 ?_))))))));refine k1 (k2 (A2 (A3 V V (A5 (B4 V) V (A5 (A9 V) V (A5 (C4 V h0 V) V (A3 V V (A3 V V (H1 (F80 (s) V h1 V V V t8 u0 (hg)) (A4 ?_))))))))));refine k1 ?_
  have h0':B9 ((711,Ob.map Str m9 (z6 names 0++[(s,.v (.int .i64 names.length))]))::ob) 710=some (.box [.mut 711,.buf 712 Str 1 P9 names]):=by rw [C3 (by decide)];exact h0
  have h2':B9 ((711,Ob.map Str m9 (z6 names 0++[(s,.v (.int .i64 names.length))]))::ob) 712=some (.spare names.length 1 9):=by rw [C3 (by decide)];exact h2
  have h0'':B9 ((712,Ob.spare (names++[s]).length 1 9)::Obs.forget 712 ((711,Ob.map Str m9 (z6 names 0++[(s,.v (.int .i64 names.length))]))::ob)) 710=some (.box [.mut 711,.p (.list Str 1 P9 names)]):=by
   rw [C3 (by decide),J7,h0'];rfl
  refine A2 (A3 V V (A3 V V (A5 (B4 V) V (A5 (A9 V) V (A5 (C4 V h0' V) V (A3 V V (A5 (C1 (c:=P9) (ys:=[s]) (D2 V V V V F1) V V V) V (C6 (G9 V h2' V (.pure _ _ _ _) (by (simp only [J17,J21];omega)) V) V (A5 (B4 V) V (A5 (A9 V) V (H1 (C2 TySz.out V h0'' V V V V) (A4 ?_))))))))))));refine k1 (k2 (A2 (A3 V V (A6 V V (A4 ?_)))));refine k1 (k10 ?_)
  exact G5 (K6 rfl rfl) (by repeat (first | exact B2 | refine B3 rfl ?_ | refine D5 _ ?_)) (fun _ _ h=>h) ⟨rfl,rfl⟩
 ·cases ht
theorem H11 (files:List (List Str)) (i m:Nat):(O9 files i).all (TC.free m)=true:=by
 rw [List.all_eq_true]
 intro t ht
 unfold O9 at ht
 obtain ⟨r,_,rfl⟩:=List.mem_map.1 ht
 split<;>rfl
theorem I23 {files:List (List Str)} {i:Nat} (b x:TC) (m:Nat):(((O9 files i).set i b).map (TC.forget m)).set i x=(O9 files i).set i x:=by
 have e1:(O9 files i).map (TC.forget m)=O9 files i:=by
  unfold O9
  rw [J49]
  apply List.map_congr_left
  intro r _
  simp only [Function.comp]
  split<;>rfl
 rw [List.map_set,e1,List.set_set]
theorem H12 {files:List (List Str)} {i:Nat} (b x:TC) (m m':Nat):((((O9 files i).set i b).map (TC.forget m)).map (TC.forget m')).set i x=(O9 files i).set i x:=by
 have e1:∀m,(O9 files i).map (TC.forget m)=O9 files i:=by
  intro m
  unfold O9
  rw [J49]
  apply List.map_congr_left
  intro r _
  simp only [Function.comp]
  split<;>rfl
 rw [List.map_set,e1,List.map_set,e1,List.set_set]
theorem I24 (files:List (List Str)) (hn:files.length≤1048576) (hl:files.flatten.length≤536870911):FnOk Tryz.prog 100 [pStrss files] (fun rs=>rs=[pIntss (files.map (x9 (N7 files))),B23 (N7 files)]):=by
 refine FnOk.intro Tryz.func100 (by decide) V V V V ?_
 refine k2 (A2 (A6 V V (A6 V V (A4 ?_))));refine k1 (k2 (A2 (C6 (C84 711 Str m9 V) V (A5 (J3 V) V (C6 (x7 710 V V V) V (A6 V V (A4 ?_)))))));refine k1 (k2 (E2 (J01 712 Str 1 P9 9 (kb:=710) (o:=1) V V V) ?_))
 refine A2 (A3 V V (E1 V V (C6 (i7 20 Unit (fun _ _=>.v (.slice none 0 0)) () V V (by omega) (by omega) (fun _=>by first | exact ⟨⟨rfl,rfl⟩,trivial⟩ | exact ⟨H2 _ _ _,trivial⟩ | exact ⟨H2 _ _ _,⟨rfl,rfl⟩,H2 _ _ _,trivial⟩) (by first | rfl | (simp [K4,J5,Ob.free,SV.free,S1.free,TC.free]<;>rfl))) V ?_)));refine A6 V V (A4 ?_);refine k1 (k2 (k2 (E2 (J12 20 V) ?_)))
 have hz:((List.replicate ((files.length:Nat):Int).toNat ()).map fun x=>TC.p ((fun (_:Unit) (_:Nat)=>Cell.v (.slice none 0 0)) x 0))=O9 files 0:=by
  rw [J16,←H30];simp
 have hz2:(List.replicate ((files.length:Nat):Int).toNat ()).length=files.length:=by simp
 rw [hz,hz2]
 refine A2 (A3 V V (E1 V V (A3 V V (A4 ?_))));refine k1 (k3 ?_);refine C5 (X:=Nat) (fun i=>([(4,.s (.one (.ref 710 0))),(5,.s (.one (.mut 20))),(16,C7 (List Str) 1 strsC files),(17,C0 files.length),(18,C0 i)],[(710,.box [.mut 711,.buf 712 Str 1 P9 (N8 files i 0)]),(711,.map Str m9 (z6 (N8 files i 0) 0)),(712,.spare (N8 files i 0).length 1 9),(20,.tarr files.length 1 (O9 files i))])) (fun i=>i≤files.length) (fun i=>files.length - i) 0 (Nat.zero_le _) ?_ ?_
 ·rw [show N8 files 0 0=[] from rfl]
  exact I89 ⟨le1 rfl,le1 rfl,le1 rfl,le1 rfl,le1 rfl,trivial⟩ ⟨rfl,rfl,rfl,rfl,trivial⟩
 intro i hi
 dsimp only at hi ⊢
 refine k2 (A2 (E7 V V V (A4 ?_)));refine k1 (k2 ?_);refine B0 rfl (fun ht=>?_) (fun ht=>?_)
 ·have hlt:i < files.length:=by have:=A0 ht;omega
  obtain ⟨f,hf⟩:∃f,f=files.getD i []:=⟨_,rfl⟩
  have hv:files[i]?=some f:=by rw [hf];simp [hlt]
  have hfl:f.length≤files.flatten.length:=by
   have h1:f∈files:=J34 hv
   have:∀(fs:List (List Str)),f∈fs→f.length≤fs.flatten.length:=by
    intro fs
    induction fs with
    | nil=>intro h;simp at h
    | cons x r ih =>
     intro h
     simp only [J59,J19]
     rcases List.mem_cons.1 h with rfl | h
     ·omega
     ·have:=ih h;omega
   exact this files h1
  have hrl:(O9 files i).length=files.length:=by simp [O9]
  refine k5 (k1 (k2 (k3 (k2 (A2 (A3 V V (A5 (A8 V (.pure _ _ _ _) V (by omega) hv) V (A5 (A7 V V) V (A6 V V (A6 V V (A4 ?_)))))))))));refine k1 (k2 (A2 (A3 V V (E1 V V (A3 V V (A4 ?_))))));refine k1 (k3 (E2 (J09 713 Int 1 E3 3 (kb:=20) (o:=i) V (I37 hlt) (by simp [K4,J5,Ob.free,SV.free,S1.free,TC.free,H11];repeat' (first | rfl | constructor))) ?_))
  refine C5 (X:=Nat) (fun j=>([(4,.s (.one (.ref 710 0))),(5,.s (.one (.mut 20))),(6,C0 i),(16,C7 (List Str) 1 strsC files),(17,C0 files.length),(18,C0 i),(23,C7 Str 1 P9 f),(24,C0 f.length),(25,C0 j)],[(20,.tarr files.length 1 ((O9 files i).set i (.buf 713 Int 1 E3 (x9 (N7 files) (f.take j))))),(710,.box [.mut 711,.buf 712 Str 1 P9 (N8 files i j)]),(711,.map Str m9 (z6 (N8 files i j) 0)),(712,.spare (N8 files i j).length 1 9),(713,.spare (x9 (N7 files) (f.take j)).length 1 3)])) (fun j=>j≤f.length) (fun j=>f.length - j) 0 (Nat.zero_le _) ?_ ?_
  ·exact I89 ⟨le1 rfl,le1 rfl,le1 rfl,le1 rfl,le1 rfl,le1 rfl,le1 rfl,le1 rfl,le1 rfl,trivial⟩ ⟨rfl,rfl,rfl,rfl,rfl,trivial⟩
  intro j hj
  dsimp only at hj ⊢
  refine k2 (A2 (E7 V V V (A4 ?_)));refine k1 (k2 ?_);refine B0 rfl (fun ht=>?_) (fun ht=>?_)
  ·have hlt2:j < f.length:=by have:=A0 ht;omega
   obtain ⟨s,hs⟩:∃s,s=f[j]:=⟨_,rfl⟩
   have hvs:f[j]?=some s:=by rw [hs];simp [hlt2]
   have hstep:=F65 files i j s (by rw [←hf];exact hvs)
   obtain ⟨names,hnm⟩:∃names,names=N8 files i j:=⟨_,rfl⟩
   have hnl:=E32 files i j
   obtain ⟨rest,hrest⟩:=D36 files i (j+1)
   obtain ⟨ids,hids⟩:∃ids,ids=x9 (N7 files) (f.take j):=⟨_,rfl⟩
   have hil:ids.length=j:=by rw [hids];simp [x9];omega
   have hnext:x9 (N7 files) (f.take (j+1))=ids++[R4 (N7 files) s 0]:=by
    rw [hids,J54 hlt2,←hs];unfold x9;rw [J48];rfl
   rw [hstep] at hrest
   rw [←hnm] at hstep hnl hrest ⊢
   rw [←hids]
   have hTi:((O9 files i).set i (.buf 713 Int 1 E3 ids))[((i:Nat):Int).toNat]?=some (.buf 713 Int 1 E3 ids):=by
    rw [J16,List.getElem?_set_self (by rw [hrl];omega)]
   have hTi2:(((O9 files i).set i (.buf 713 Int 1 E3 ids)).map (TC.forget 712))[((i:Nat):Int).toNat]?=some (.buf 713 Int 1 E3 ids):=by
    rw [J51,hTi];rfl
   refine k5 (k1 (k2 (k3 (k2 (A2 (A5 (A8 V (.pure _ _ _ _) V (by omega) hvs) V (A5 (A7 V V) V (A6 V V (A4 ?_)))))))))
   by_cases hmem:s∈names
   ·have hns:P5 names s=names:=by unfold P5;rw [if_pos hmem]
    rw [hns] at hstep hrest
    have hpl:R4 (N7 files) s 0=R4 names s 0:=by rw [hrest];exact B58 s rest names 0 hmem
    refine R9 ?_
    refine A08 ((9,S3 s)::[(4,.s (.one (.ref 710 0))),(5,.s (.one (.mut 20))),(6,C0 i),(16,C7 (List Str) 1 strsC files),(17,C0 files.length),(18,C0 i),(23,C7 Str 1 P9 f),(24,C0 f.length),(25,C0 j)]) [(20,.tarr files.length 1 ((O9 files i).set i (.buf 713 Int 1 E3 ids))),(710,.box [.mut 711,.buf 712 Str 1 P9 names]),(711,.map Str m9 (z6 names 0)),(712,.spare names.length 1 9),(713,.spare ids.length 1 3)] (I89 ⟨le1 rfl,le1 rfl,le1 rfl,le1 rfl,le1 rfl,le1 rfl,le1 rfl,le1 rfl,le1 rfl,le1 rfl,trivial⟩ ⟨rfl,rfl,rfl,rfl,rfl,trivial⟩) ?_
    refine O2 [12,10,8] [[],[8],[10,8],[12,10,8]] [(8,([],[])),(10,([713],[34])),(12,([],[]))] [(0,[]),(1,[]),(2,[]),(3,[]),(4,[]),(5,[]),(6,[]),(7,[]),(8,[]),(9,[8]),(10,[8]),(11,[10,8]),(12,[10,8])] [(0,[8]),(0,[10,8]),(1,[8]),(1,[10,8]),(2,[8]),(3,[8]),(4,[8]),(5,[8])] (by kernel_rfl) (by kernel_rfl) (E4 V V (by kernel_rfl) V V (B7 V V) (E4 V V (by kernel_rfl) V V (B7 V V) (E4 V V (by kernel_rfl) V V (B7 V V) (E4 V V (by kernel_rfl) V V (B7 V V) (E4 V V (by kernel_rfl) V V (S5 V V V (by omega) (by omega)) (E4 V V (by kernel_rfl) V V (r8 V V (by first | exact hTi | exact hTi2)) ?_))))));refine E4 V V (by kernel_rfl) V V (B7 V V) (E4 V V (by kernel_rfl) V V (B7 V V) (X8 V V (by kernel_rfl) V V (r_met (fun gf=>tid_old names s hmem V V) V V) V (E4 V V (by kernel_rfl) V V (C1 (c:=E3) (ys:=[R4 names s 0]) (D2 V V V V F1) V V V) (X8 V V (by kernel_rfl) V V (C86 (fun frc hU=>G9 (S6 hU V) V (S6 hU V) (.pure _ _ _ _) (by (simp only [J17,J21];omega)) V)) V (E4 V V (by kernel_rfl) V V (S5 V V V (by omega) (by omega)) (X8 V V (by kernel_rfl) V V (A27 (fun frc hU=>B26 TySz.out (S6 hU V) V (by (simp;omega)) (S6 hU V) V)) V ?_))))));refine E75 (by kernel_rfl) rfl ?_ ?_
    ·refine M6 V V (by kernel_rfl) V V (B7 V V) (M6 V V (by kernel_rfl) V V (B7 V V) (M6 V V (by kernel_rfl) V V (B7 V V) (M6 V V (by kernel_rfl) V V (B7 V V) (M6 V V (by kernel_rfl) V V (B7 V V) (M6 V V (by kernel_rfl) V V (B7 V V) (M6 V V (by kernel_rfl) V V (S5 V V V (by omega) (by omega)) (M6 V V (by kernel_rfl) V V (r8 V V (by first | exact hTi | exact hTi2)) ?_)))))));exact B31
    refine A08 [(4,.s (.one (.ref 710 0))),(5,.s (.one (.mut 20))),(6,C0 i),(16,C7 (List Str) 1 strsC files),(17,C0 files.length),(18,C0 i),(23,C7 Str 1 P9 f),(24,C0 f.length),(25,C0 j)] [(20,.tarr files.length 1 ((O9 files i).set i (.buf 713 Int 1 E3 (ids++[R4 names s 0])))),(710,.box [.mut 711,.buf 712 Str 1 P9 (names)]),(711,.map Str m9 (z6 (names) 0)),(712,.spare (names).length 1 9),(713,.spare (ids++[R4 names s 0]).length 1 3)] (by rw [J16 i,I23];exact I89 ⟨le1 rfl,le1 rfl,le1 rfl,le1 rfl,le1 rfl,le1 rfl,le1 rfl,le1 rfl,le1 rfl,trivial⟩ ⟨rfl,rfl,rfl,rfl,rfl,trivial⟩) ?_
    refine A2 (D1 V V V (A3 V V (A4 ?_)));refine k1 ?_
    exact ⟨j+1,hlt2,by omega,by rw [hstep,hnext,hpl];exact I89 ⟨le1 rfl,le1 rfl,le1 rfl,le1 rfl,le1 rfl,le1 rfl,le1 rfl,le1 rfl,le1 rfl,trivial⟩ ⟨rfl,rfl,rfl,rfl,rfl,trivial⟩⟩
   ·refine R9 ?_
    have hns:P5 names s=names++[s]:=by unfold P5;rw [if_neg hmem]
    rw [hns] at hstep hrest
    have hkv:z6 (names++[s]) 0=z6 names 0++[(s,.v (.int .i64 (names.length:Int)))]:=by rw [F06];simp only [Int.zero_add]
    have hpl:R4 (N7 files) s 0=names.length:=by
     rw [hrest,B58 s rest (names++[s]) 0 (by simp),D35 s names 0 hmem];omega
    refine A08 ((9,S3 s)::[(4,.s (.one (.ref 710 0))),(5,.s (.one (.mut 20))),(6,C0 i),(16,C7 (List Str) 1 strsC files),(17,C0 files.length),(18,C0 i),(23,C7 Str 1 P9 f),(24,C0 f.length),(25,C0 j)]) [(20,.tarr files.length 1 ((O9 files i).set i (.buf 713 Int 1 E3 (ids)))),(710,.box [.mut 711,.buf 712 Str 1 P9 (names)]),(711,.map Str m9 (z6 (names) 0)),(712,.spare (names).length 1 9),(713,.spare (ids).length 1 3)] (I89 ⟨le1 rfl,le1 rfl,le1 rfl,le1 rfl,le1 rfl,le1 rfl,le1 rfl,le1 rfl,le1 rfl,le1 rfl,trivial⟩ ⟨rfl,rfl,rfl,rfl,rfl,trivial⟩) ?_
    refine O2 [12,10,8] [[],[8],[10,8],[12,10,8]] [(8,([712],[])),(10,([713],[34])),(12,([],[]))] [(0,[]),(1,[]),(2,[]),(3,[]),(4,[]),(5,[]),(6,[]),(7,[]),(8,[]),(9,[8]),(10,[8]),(11,[10,8]),(12,[10,8])] [(0,[8]),(0,[10,8]),(1,[8]),(1,[10,8]),(2,[8]),(3,[8]),(4,[8]),(5,[8])] (by kernel_rfl) (by kernel_rfl) (E4 V V (by kernel_rfl) V V (B7 V V) (E4 V V (by kernel_rfl) V V (B7 V V) (E4 V V (by kernel_rfl) V V (B7 V V) (E4 V V (by kernel_rfl) V V (B7 V V) (E4 V V (by kernel_rfl) V V (S5 V V V (by omega) (by omega)) (E4 V V (by kernel_rfl) V V (r8 V V (by first | exact hTi | exact hTi2)) ?_))))));refine E4 V V (by kernel_rfl) V V (B7 V V) (E4 V V (by kernel_rfl) V V (B7 V V) (X8 V V (by kernel_rfl) V V (r_met (fun gf=>tid_new names s hmem (by omega) V V V) V V) V (E4 V V (by kernel_rfl) V V (C1 (c:=E3) (ys:=[(names.length:Int)]) (D2 V V V V F1) V V V) (X8 V V (by kernel_rfl) V V (C86 (fun frc hU=>G9 (S6 hU V) V (S6 hU V) (.pure _ _ _ _) (by (simp only [J17,J21];omega)) V)) V (E4 V V (by kernel_rfl) V V (S5 V V V (by omega) (by omega)) (X8 V V (by kernel_rfl) V V (A27 (fun frc hU=>B26 TySz.out (S6 hU V) V (by (simp;omega)) (S6 hU V) V)) V ?_))))));refine E75 (by kernel_rfl) rfl ?_ ?_
    ·refine M6 V V (by kernel_rfl) V V (B7 V V) (M6 V V (by kernel_rfl) V V (B7 V V) (M6 V V (by kernel_rfl) V V (B7 V V) (M6 V V (by kernel_rfl) V V (B7 V V) (M6 V V (by kernel_rfl) V V (B7 V V) (M6 V V (by kernel_rfl) V V (B7 V V) (M6 V V (by kernel_rfl) V V (S5 V V V (by omega) (by omega)) (M6 V V (by kernel_rfl) V V (r8 V V (by first | exact hTi | exact hTi2)) ?_)))))));exact B31
    refine A08 [(4,.s (.one (.ref 710 0))),(5,.s (.one (.mut 20))),(6,C0 i),(16,C7 (List Str) 1 strsC files),(17,C0 files.length),(18,C0 i),(23,C7 Str 1 P9 f),(24,C0 f.length),(25,C0 j)] [(20,.tarr files.length 1 ((O9 files i).set i (.buf 713 Int 1 E3 (ids++[(names.length:Int)])))),(710,.box [.mut 711,.buf 712 Str 1 P9 (names++[s])]),(711,.map Str m9 (z6 (names++[s]) 0)),(712,.spare (names++[s]).length 1 9),(713,.spare (ids++[(names.length:Int)]).length 1 3)] (by rw [J16 i,H12,hkv];exact I89 ⟨le1 rfl,le1 rfl,le1 rfl,le1 rfl,le1 rfl,le1 rfl,le1 rfl,le1 rfl,le1 rfl,trivial⟩ ⟨rfl,rfl,rfl,rfl,rfl,trivial⟩) ?_
    refine A2 (D1 V V V (A3 V V (A4 ?_)));refine k1 ?_
    exact ⟨j+1,hlt2,by omega,by rw [hstep,hnext,hpl];exact I89 ⟨le1 rfl,le1 rfl,le1 rfl,le1 rfl,le1 rfl,le1 rfl,le1 rfl,le1 rfl,le1 rfl,trivial⟩ ⟨rfl,rfl,rfl,rfl,rfl,trivial⟩⟩
  ·have hj2:j=f.length:=by have:=A1 ht;omega
   subst hj2
   rw [J22]
   refine k6 (k7 (k7 (k8 V (k4 (k1 (E2 (Sees.forget 713) ?_))))))
   have hfr:((O9 files i).set i (.buf 713 Int 1 E3 (x9 (N7 files) f))).map (TC.forget 713)=O9 files (i+1):=by rw [hf];exact F66 files i 713 hlt
   have hnr:N8 files (i+1) 0=N8 files i f.length:=by rw [hf];exact G43 files i
   refine A08 [(4,.s (.one (.ref 710 0))),(5,.s (.one (.mut 20))),(16,C7 (List Str) 1 strsC files),(17,C0 files.length),(18,C0 i)] [(710,.box [.mut 711,.buf 712 Str 1 P9 (N8 files (i+1) 0)]),(711,.map Str m9 (z6 (N8 files (i+1) 0) 0)),(712,.spare (N8 files (i+1) 0).length 1 9),(20,.tarr files.length 1 (O9 files (i+1)))] (by rw [hnr,←hfr];exact I89 ⟨le1 rfl,le1 rfl,le1 rfl,le1 rfl,le1 rfl,trivial⟩ ⟨rfl,rfl,rfl,rfl,trivial⟩) ?_
   refine A2 (D1 V V V (A3 V V (A4 ?_)));refine k1 ?_
   exact ⟨i+1,hlt,by omega,I89 ⟨le1 rfl,le1 rfl,le1 rfl,le1 rfl,le1 rfl,trivial⟩ ⟨rfl,rfl,rfl,rfl,trivial⟩⟩
 ·have hi2:i=files.length:=by have:=A1 ht;omega
  rw [hi2,G44]
  refine E2 (J13 20 (c:=intsC) (files.map (x9 (N7 files))) V (by simp) (H31 files)) ?_
  refine E2 (Sees.freeze (k:=20) V) ?_
  refine E2 (Sees.forget 712) ?_
  refine k6 (k2 (D9 (by kernel_rfl) (by kernel_rfl) (D8 V V (D8 V V (B5 (B4 V) V V (B5 (A9 V) V V (B5 (C4 V V V) V V (B5 (H5 V V) V V (B5 (H5 V V) V V (N3 ?_))))))))));refine k1 (k10 ?_)
  exact B6 (V5 rfl rfl rfl rfl rfl) rfl
theorem F50 (files:List (List Str)) (hn:files.length≤1048576) (hl:files.flatten.length≤536870911):FnOk Tryz.prog 68 [pStrss files] (fun rs=>rs=[pIntss (files.map (x9 (N7 files)))]):=by
 refine FnOk.intro Tryz.func68 (by decide) V V V V ?_
 refine k2 (A2 (A6 V V (A4 ?_)));refine k1 (k2 (A2 (A3 V V (C9 (I24 files hn hl) V V V ?_))));rintro _ rfl;refine A3 V V (H0 V V V (H0 V V V (A6 V V (A6 V V (A4 ?_)))));refine k1 (k2 (A2 (A3 V V (A6 V V (A4 ?_)))));refine k1 (k10 ?_)
 exact B6 (G7 rfl rfl rfl) rfl
set_option maxHeartbeats 1000000
theorem A56 {k:Nat} {ob:Obs} {j:Nat} {o:Ob} (h:B9 (Obs.drop k ob) j=some o):B9 ob j=some o∧j≠k:=by
 by_cases e:j=k
 ·subst e
  exfalso
  have:∀ob:Obs,B9 (Obs.drop j ob) j=none:=by
   intro ob
   induction ob with
   | nil=>rfl
   | cons p r ih =>
    obtain ⟨i,x⟩:=p
    unfold Obs.drop
    cases hb:Nat.beq i j
    ·show B9 ((i,x)::Obs.drop j r) j=none
     rw [C3 (fun e=>by rw [e,Nat.beq_refl] at hb;cases hb)];exact ih
    ·exact ih
  rw [this] at h;cases h
 ·rw [B69 e] at h;exact ⟨h,e⟩
theorem J11 {P:Program} {nt:Nat} {fr:Fr} {ob:Obs} {t k:Nat} {ts:List TC} {cs:List Cell} (ht:F2 fr t=some (.s (.one (.ref k 0)))) (hk:B9 ob k=some (.box ts)) (hp:A65 ts=some cs) (hk0:Nat.blt k 1000000=true) :
  Sees P nt fr ob ((t,.s (.one (.eref Unit cs.length (fun _ j=>cs.getD j (.v undef)) () 0)))::fr) (Obs.drop k ob):=by
 unfold Sees
 intro S G a w hn h
 have hk6:k < 1000000:=by simpa using hk0
 obtain ⟨b,vs,tt,hG,hh,hall⟩:=h.box hk
 have hs:Sim P S fr (Obs.drop k ob) G a w:=h.weakenO fun j o hj=>(A56 hj).1
 have hrd:∀b i z,F9 (Mut S ob G) w b i z→F9 (Mut S (Obs.drop k ob) G) w b i z:=fun b i z hz=>⟨hz.1,fun hm=>hz.2 (hm.imp id fun ⟨q,o,hq,ho⟩=>⟨q,o,(A56 hq).1,ho⟩)⟩
 refine ⟨G,{ hs with facts:=fun i s hi=>?_ }⟩
 by_cases he:t=i
 ·subst he
  rw [E8] at hi
  cases hi
  obtain ⟨b',hb',hu⟩:=h.facts t _ ht
  rw [hG] at hb'
  cases hb'
  refine ⟨b,0,by rw [hu],fun j hj=>?_⟩
  have hc:=p7 hp hall
  obtain ⟨z,hz1,hz2⟩:=hc.get j _ (J14 hj)
  refine ⟨z,⟨by rw [Nat.zero_add];exact O1 hh (by simpa using hz1),?_⟩,?_⟩
  ·rintro (hm | ⟨q,o,hq,ho⟩)
   ·have h1:=h.m0 _ _ hm
    rcases h.old k _ b hk (by rw [hG];rfl) with h2 | ⟨_,h2⟩
    ·omega
    ·omega
   ·obtain ⟨h1,h2⟩:=A56 hq
    exact h2 (h.dis q k _ _ b h1 hk ho.1 (by rw [hG];rfl))
  ·show (cs.getD j (.v undef)).rep _ z
   rw [J20,J14 hj]
   exact Cell.rep_mono hrd _ _ hz2
 ·rw [D4 he] at hi
  exact hs.facts i s hi
theorem H13:B76 []=([],0):=by kernel_rfl
theorem I77:B76 aa=([aa],0):=by kernel_rfl
theorem ids_aa:([[],[aa]]:List (List Str)).map (x9 (N7 [[],[aa]]))=[[],[0]]:=by kernel_rfl
theorem walk_aa:H22 [] [0]=[⟨0,0,0,1⟩]:=by
 unfold H22
 rw [Y0]
 rfl
theorem bare_aa:F59 aa=aa:=by kernel_rfl
def outM:Nat→List Str
 | 0=>[]
 | _=>[aa]
theorem G27:FnOk Tryz.prog 46 [C75 auto5,L2 [],L2 aa] (fun rs=>rs=[B23 [aa],E6 0]):=by
 have hs0:=E86 [] (by decide)
 have hs1:=E86 aa (by decide)
 have hid:=F50 [[],[aa]] (by decide) (by decide)
 have hwk:=H10 [] [0] (by decide) (by decide)
 have hba:=I53 aa (by decide)
 rw [H13] at hs0
 rw [I77] at hs1
 rw [ids_aa] at hid
 rw [walk_aa] at hwk
 rw [bare_aa] at hba
 have hv0:([[],[0]]:List (List Int))[(0:Int).toNat]?=some []:=rfl
 have hv1:([[],[0]]:List (List Int))[(1:Int).toNat]?=some [0]:=rfl
 refine FnOk.intro Tryz.func46 (by decide) V V V V ?_
 refine k2 (A2 (A5 (q8 V V V) V (A6 V V (A6 V V (A4 ?_)))));refine k1 (k2 (A2 (A3 V V (C9 (hs0) V V V ?_))));rintro _ rfl;refine A3 V V (H0 V V V (H0 V V V (A6 V V (A6 V V (A4 ?_)))));refine k1 (k2 (k2 (A2 (A3 V V (A5 (Q9 V V) V (A4 ?_))))));refine k1 ?_;refine B0 rfl (fun ht=>?_) (fun ht=>?_)
 ·cases ht
 refine k5 (k1 (k2 (A2 (A3 V V (C9 (hs1) V V V ?_)))));rintro _ rfl;refine A3 V V (H0 V V V (H0 V V V (A6 V V (A6 V V (A4 ?_)))));refine k1 (k2 (k2 (A2 (A3 V V (A5 (Q9 V V) V (A4 ?_))))));refine k1 ?_;refine B0 rfl (fun ht=>?_) (fun ht=>?_)
 ·cases ht
 refine k5 (k1 (k2 (A2 (A3 V V (A3 V V (A5 (C1 (c:=strsC) (ys:=[[],[aa]]) (D2 V V V V (D2 V V V V F1)) V V V) V (C9 (hid) V V V ?_)))))));rintro _ rfl;refine A6 V V (A4 ?_);refine k1 (k2 (D9 (by kernel_rfl) (by kernel_rfl) (D8 V V (B5 (A8 V (.pure _ _ _ _) V (by omega) hv0) V V (B5 (A7 V V) V V (D8 V V (B5 (A8 V (.pure _ _ _ _) V (by omega) hv1) V V (B5 (A7 V V) V V (B5 (L0 (hwk) V V) V V (D8 V V (B5 (S4 V V) V V (B5 (S4 V V) V V (B5 (H5 V V) V V (B5 (H5 V V) V V (N3 ?_)))))))))))))));refine k1 (k2 (A2 (C6 (N0 14 _ P9 V) V (A4 ?_))));refine k1 (k2 (k2 (A2 (A3 V V (E1 V V (A3 V V (A4 ?_)))))));refine k1 (k3 ?_)
 obtain ⟨L,hL⟩:∃L:List Change,L=[⟨0,0,0,1⟩]:=⟨_,rfl⟩
 have hLl:L.length=1:=by rw [hL];rfl
 rw [←hL]
 refine C5 (X:=Nat) (fun i=>([(3,.s (.one (.eref Unit 2 (fun _ j=>[Cell.list AL.State 7 Z8 auto5.States,Cell.v (.int .i64 auto5.Start)].getD j (.v undef)) () 0))),(8,C7 Str 1 P9 []),(10,C7 Str 1 P9 [aa]),(14,.s (.one (.buf 14 Str 1 P9 (outM i)))),(51,.s (pChanges L).s1),(52,C0 L.length),(53,C0 i)],[(14,.spare (outM i).length 1 9)])) (fun i=>i≤1) (fun i=>1 - i) 0 (Nat.zero_le _) (I89 ⟨le1 rfl,le1 rfl,le1 rfl,le1 rfl,le1 rfl,le1 rfl,le1 rfl,trivial⟩ ⟨rfl,trivial⟩) ?_
 intro i hi
 dsimp only at hi ⊢
 refine k2 (A2 (E7 V V V (A4 ?_)));refine k1 (k2 ?_);refine B0 rfl (fun ht=>?_) (fun ht=>?_)
 rotate_left
 ·have hi1:i=1:=by have:=A1 ht;omega
  subst hi1
  refine k6 (k2 (A2 (A3 V V (A6 V V (A6 V V (A4 ?_))))));refine k1 (k10 ?_)
  exact B6 (rs:=[B23 [aa],E6 0]) (V5 rfl rfl rfl rfl rfl) rfl
 have hi0:i=0:=by have:=A0 ht;omega
 subst hi0
 have hv:L[0]?=some ⟨0,0,0,1⟩:=by rw [hL];rfl
 refine k5 (k1 (k2 (k3 (k2 (A2 (A5 (A8 V (.pure _ _ _ _) V (by omega) hv) V (A5 (E0 V V) V (C6 (J6 16 V) V (H1 (C2 TySz.out V V V V V V) (A4 ?_))))))))));refine k1 (k2 (D9 (by kernel_rfl) (by kernel_rfl) (D8 V V (B5 (A9 V) V V (B5 (C4 V V V) V V (B5 (A9 V) V V (B5 (C4 V V V) V V (B5 (A9 V) V V (B5 (C4 V V V) V V (B5 (b8 V V (by (first | omega | decide))) V V (B5 (D60 V (.pure _ _ _ _) V V (by (first | omega | decide)) (by (first | omega | decide)) (by (first | omega | decide))) V V (D8 V V (B5 (A9 V) V V (B5 (C4 V V V) V V (B5 (A9 V) V V (B5 (C4 V V V) V V (B5 (A9 V) V V (B5 (C4 V V V) V V (B5 (b8 V V (by (first | omega | decide))) V V (B5 (D60 V (.pure _ _ _ _) V V (by (first | omega | decide)) (by (first | omega | decide)) (by (first | omega | decide))) V V (B5 (C1 (c:=strsC) (ys:=[[],[aa]]) (D2 V V V V (D2 V V V V F1)) V V V) V V (B5 (L0 (F49 [[],[aa]] (by decide) (by decide)) V V) V V (B5 (U0 V (.pure _ _ _ _)) V V ?_)))))))))))))))))))))));refine D8 V V (N3 ?_);refine k1 (k3 ?_)
 obtain ⟨M,hM⟩:∃M:List Str,M=[aa]:=⟨_,rfl⟩
 have hMl:M.length=1:=by rw [hM];rfl
 have hfl:([[],[aa]]:List (List Str)).flatten=M:=by rw [hM];rfl
 rw [hfl]
 refine C5 (X:=Nat) (fun j=>([(3,.s (.one (.eref Unit 2 (fun _ j=>[Cell.list AL.State 7 Z8 auto5.States,Cell.v (.int .i64 auto5.Start)].getD j (.v undef)) () 0))),(8,C7 Str 1 P9 []),(10,C7 Str 1 P9 [aa]),(14,.s (.one (.buf 14 Str 1 P9 (outM j)))),(51,.s (pChanges L).s1),(52,C0 L.length),(53,C0 0),(76,C7 Str 1 P9 M),(77,C0 M.length),(78,C0 j)],[(14,.spare (outM j).length 1 9)])) (fun j=>j≤1) (fun j=>1 - j) 0 (Nat.zero_le _) (I89 ⟨le1 rfl,le1 rfl,le1 rfl,le1 rfl,le1 rfl,le1 rfl,le1 rfl,le1 rfl,le1 rfl,le1 rfl,trivial⟩ ⟨rfl,trivial⟩) ?_
 intro j hj
 dsimp only at hj ⊢
 refine k2 (A2 (E7 V V V (A4 ?_)));refine k1 (k2 ?_);refine B0 rfl (fun ht=>?_) (fun ht=>?_)
 rotate_left
 ·have hj1:j=1:=by have:=A1 ht;omega
  subst hj1
  refine k6 (k7 (k7 (k8 V (k4 (k1 (A2 (D1 V V V (A3 V V (A4 ?_)))))))));refine k1 ?_
  exact ⟨1,by decide,by decide,I89 ⟨le1 rfl,le1 rfl,le1 rfl,le1 rfl,le1 rfl,le1 rfl,le1 rfl,trivial⟩ ⟨rfl,trivial⟩⟩
 have hj0:j=0:=by have:=A0 ht;omega
 subst hj0
 have hvm:M[0]?=some aa:=by rw [hM];rfl
 refine k5 (k1 (k2 (k3 (k2 (A2 (A5 (A8 V (.pure _ _ _ _) V (by omega) hvm) V (A5 (A7 V V) V (A6 V V (A4 ?_)))))))));refine k1 (k2 (D9 (by kernel_rfl) (by kernel_rfl) (B5 (E0 V V) V V (D8 V V (B5 (L0 (hba) V V) V V (B5 (L0 (any_ok) V V) V V (D8 V V (B5 (S4 V V) V V (B5 (S4 V V) V V (B5 (H5 V V) V V (B5 (H5 V V) V V (N3 ?_))))))))))));refine k1 (k2 (A2 (A3 V V (A4 ?_))));refine k1 ?_;refine B0 rfl (fun ht=>?_) (fun ht=>?_)
 rotate_left
 ·cases ht
 skip
 refine A2 (A3 V V (A3 V V (C9 (hba) V V V ?_)));rintro _ rfl;refine A5 (C1 (c:=P9) (ys:=[aa]) (D2 V V V V F1) V V V) V (C6 (G9 V V V (.pure _ _ _ _) (by (simp only [outM,J17,J21];omega)) V) V (A6 V V (A4 ?_)));refine k4 (k1 (A2 (D1 V V V (A3 V V (A4 ?_)))));refine k1 ?_
 exact ⟨1,by decide,by decide,I89 ⟨le1 rfl,le1 rfl,le1 rfl,le1 rfl,le1 rfl,le1 rfl,le1 rfl,le1 rfl,le1 rfl,le1 rfl,trivial⟩ ⟨rfl,trivial⟩⟩
abbrev autoE:Unit→Nat→Cell:=fun _ j=>[Cell.list AL.State 7 Z8 auto5.States,Cell.v (.int .i64 auto5.Start)].getD j (.v undef)
theorem H14:AL.Met Tryz.prog 45 [G17 ([],aa),.one (.eref Unit 2 autoE () 0)] [] [] [] (fun rs ob'=>rs=[B13 true]∧ob'=[]):=by
 refine AL.Met.intro Tryz.func45 (by decide) V V V ?_
 refine k2 (A2 (C6 (x7 2 V V V) V (A6 V V (A4 ?_))));refine k1 (k2 (A2 (A5 (E0 V V) V (A5 (K8 V V (by first | omega | decide) (by omega)) V (G4 V V V V (A5 (K8 V V (by first | omega | decide) (by omega)) V (G4 V V V V (C9 (G27) V V V ?_))))))));rintro _ rfl;refine A3 V V (H0 V V V (H0 V V V (A6 V V (A6 V V (A4 ?_)))));refine k1 (k2 (A2 (A3 V V (E1 V V (A5 (L7 V V) V (A6 V V (A4 ?_)))))));refine k1 (k10 ?_)
 exact G5 (K6 rfl rfl) (by repeat (first | exact B2 | refine B3 rfl ?_ | refine D5 _ ?_)) (ObIn.spec (ob':=[]) trivial) ⟨rfl,rfl⟩
set_option maxHeartbeats 2000000
theorem H15 (g:Graph) (s:Int):(M8 g s).1.length≤g.length:=by
 unfold M8
 split
 ·simp
 ·split
  ·exact X9 (l7 g [s]).1 (l7 g [s]).2
  ·simp
theorem G28 (g:Graph) (s:Int) (nd:Str):(O8 g s nd).1.length≤g.length:=by
 unfold O8
 split
 ·simp
 ·split
  ·simp
  ·unfold T3
   split
   ·simp
   ·exact Nat.le_trans (List.length_filter_le _ _) (H15 g s)
theorem F51 (g:Graph) (c:Int) (nd:Str):(O7 g c nd).1.length≤33:=by
 unfold O7
 split
 ·simp
 ·rename_i h
  obtain ⟨hv,_⟩:=A33 (Decidable.not_not.1 h)
  have:=u6 hv c.toNat
  unfold K5
  rw [J32,J32];exact this
theorem A76 (a:List Int) (ha:a.length≤1099511627776):FnOk Tryz.prog 11 [I0 a,I0 a] (fun rs=>rs=[H8 true]):=by
 refine FnOk.intro Tryz.func11 (by decide) V V V V ?_
 refine k2 (A2 (A6 V V (A4 ?_)));refine k1 (k2 (k2 (A2 (A3 V V (E1 V V (A3 V V (E1 V V (A5 (Q9 V V) V (A4 ?_)))))))));refine k1 ?_;refine B0 rfl (fun ht=>?_) (fun ht=>?_)
 ·exact absurd rfl (A0 ht)
 refine k5 (k1 (k2 (k2 (A2 (A6 V V (A4 ?_))))));refine k1 (k3 (C5 (X:=Nat) (fun i=>([(0,C7 Int 1 E3 a),(1,C7 Int 1 E3 a),(5,C0 i)],[])) (fun i=>i≤a.length) (fun i=>a.length - i) 0 (Nat.zero_le _) (I89 ⟨le1 rfl,le1 rfl,le1 rfl,trivial⟩ trivial) ?_))
 intro i hi
 dsimp only at hi ⊢
 refine k2 (k2 (A2 (A3 V V (A3 V V (E1 V V (E7 V V V (A4 ?_)))))));refine k1 ?_;refine B0 rfl (fun ht=>?_) (fun ht=>?_)
 ·have hlt:i < a.length:=by have:=A0 ht;omega
  have hv:=getI hlt
  refine k5 (k1 (k2 (k3 (k2 (D9 (by kernel_rfl) (by kernel_rfl) (D8 V V (D8 V V (B5 (A8 V (.pure _ _ _ _) V (by omega) hv) V V (B5 (A7 V V) V V (D8 V V (D8 V V (B5 (A8 V (.pure _ _ _ _) V (by omega) hv) V V (B5 (A7 V V) V V (B5 (Q9 V V) V V (N3 ?_)))))))))))))));refine k1 ?_;refine B0 rfl (fun ht=>?_) (fun ht=>?_)
  ·exact absurd rfl (A0 ht)
  refine k5 (k4 (k1 (A2 (A3 V V (D1 V V V (A6 V V (A4 ?_)))))));refine k1 ?_
  exact ⟨i+1,by omega,by omega,I89 ⟨le1 rfl,le1 rfl,le1 rfl,trivial⟩ trivial⟩
 ·refine k6 (k2 (A2 (A6 V V (A4 ?_))));refine k1 (k10 ?_)
  exact B6 (rs:=[H8 true]) (G7 rfl rfl rfl) rfl
abbrev needles:List Str:=[[97],[98],[97,98],[97,10],[10],[97,97],[122],[97,10,98]]
theorem needle8 (i:Int) (h:0≤i∧i < 8):∃nm:Str,needles[i.toNat]?=some nm∧nm.length≤3:=by
 obtain ⟨k,rfl⟩:∃k:Nat,i=(k:Int):=⟨i.toNat,by omega⟩
 rw [J16]
 have hk:k < 8:=by omega
 match k,hk with
 | 0,_=>exact ⟨_,rfl,by decide⟩
 | 1,_=>exact ⟨_,rfl,by decide⟩
 | 2,_=>exact ⟨_,rfl,by decide⟩
 | 3,_=>exact ⟨_,rfl,by decide⟩
 | 4,_=>exact ⟨_,rfl,by decide⟩
 | 5,_=>exact ⟨_,rfl,by decide⟩
 | 6,_=>exact ⟨_,rfl,by decide⟩
 | 7,_=>exact ⟨_,rfl,by decide⟩
theorem I25 (raw:List Int):FnOk Tryz.prog 6 [I0 raw] (fun rs=>∃nm:Str,rs=[L2 nm]∧nm.length≤3):=by
 obtain ⟨i,hi⟩:∃i,i=b9 (c9 raw 901) 8:=⟨_,rfl⟩
 have hir:=A13 (c9 raw 901) (n:=8) (by omega)
 have hmod:=B35 (c9 raw 901) 8 (by omega) (by omega)
 rw [←hi] at hir hmod
 obtain ⟨nm,hv,hl⟩:=needle8 i hir
 refine FnOk.intro Tryz.func6 (by decide) V V V V ?_
 refine k2 (A2 (A6 V V (A4 ?_)));refine k1 (k2 (A2 (A5 (C1 (c:=P9) (ys:=needles) (D2 V V V V (D2 V V V V (D2 V V V V (D2 V V V V (D2 V V V V (D2 V V V V (D2 V V V V (D2 V V V V F1)))))))) V V V) V (A3 V V (C9 (A14 raw 901 (by omega) (by omega)) V V V ?_)))));rintro _ rfl;refine C9 (hmod) V V V ?_;rintro _ rfl;refine A5 (A8 V (.pure _ _ _ _) V (by omega) hv) V (A5 (A7 V V) V (A6 V V (A4 ?_)));refine k1 (k10 ?_)
 exact B6 (rs:=[L2 nm]) (G7 rfl rfl rfl) ⟨nm,rfl,hl⟩
abbrev g0:Graph:=[⟨[],0,[⟨[120],[97,97]⟩]⟩]
theorem g0_gg:GG 64 g0:=⟨by decide,fun c hc=>by rw [List.mem_singleton.1 hc];exact ⟨by decide,fun p hp=>by cases hp⟩,fun c hc=>by rw [List.mem_singleton.1 hc];exact ⟨by decide,fun f hf=>by rw [List.mem_singleton.1 hf];exact ⟨by decide,by decide⟩⟩⟩
theorem I78:(K5 g0 0).flatten=[([],aa)]:=by kernel_rfl
theorem I26:T3 (fun _=>true) g0 0=([0],0):=by kernel_rfl
theorem H16:FnOk Tryz.prog 26 [I1 g0,E6 0,L2 [94,97,43,36]] (fun rs=>rs=[I0 [0],E6 0]):=by
 have hF:=D22 g0 0 45 Unit 2 autoE () (fun _=>true) (g0_gg.few (by decide)) g0_gg.short (fun _ c hc x hx=>by
  have hc0:c=0:=Nat.lt_one_iff.1 hc
  subst hc0
  rw [I78] at hx
  rw [List.mem_singleton.1 hx]
  exact H14)
 rw [I26] at hF
 refine FnOk.intro Tryz.func26 (by decide) V V V V ?_
 refine k2 (A2 (A5 (G8 _ 1 E3) V (A6 V V (A4 ?_))));refine k1 (k2 (A2 (A3 V V (C9 (G22) V V V ?_))));rintro _ rfl;refine A3 V V (H0 V V V (H0 V V V (C6 (J6 8 V) V (H1 (C2 TySz.out V V V V V V) (A6 V V (A4 ?_))))));refine k1 (k2 (k2 (A2 (A3 V V (A5 (Q9 V V) V (A4 ?_))))));refine k1 ?_;refine B0 rfl (fun ht=>?_) (fun ht=>?_)
 ·cases ht
 refine k5 (k1 (k2 (E2 (J11 (t:=8) (k:=8) (cs:=[Cell.list AL.State 7 Z8 auto5.States,Cell.v (.int .i64 auto5.Start)]) V V V V) ?_)))
 refine A2 (A3 V V (A3 V V (A5 (D13 V) V (B33 (hF) V V V V ?_))));rintro _ _ ⟨rfl,rfl⟩;refine ⟨rfl,?_⟩;refine H0 V V V (H0 V V V (A6 V V (A6 V V (A4 ?_))));refine k1 (k10 ?_)
 exact B6 (rs:=[I0 [0],E6 0]) (V5 rfl rfl rfl rfl rfl) rfl
theorem lit0:O8 g0 0 [97]=([0],0):=by kernel_rfl
theorem cnt0:O7 g0 0 [97]=([2],0):=by kernel_rfl
theorem H17:FnOk Tryz.prog 12 [] (fun rs=>rs=[H8 true]):=by
 have hL:=D23 g0 0 [97] (g0_gg.few (by decide)) g0_gg.short (by decide)
 have hC:=E01 g0 0 [97] (g0_gg.few (by decide)) g0_gg.short (by decide)
 rw [lit0] at hL
 rw [cnt0] at hC
 refine FnOk.intro Tryz.func12 (by decide) V V V V ?_
 refine k2 (A2 (A6 V V (A4 ?_)));refine k1 (k2 (A2 (A5 (J3 V) V (A5 (C1 (c:=Q4) (ys:=[(⟨[120],[97,97]⟩:File)]) (D2 V V V V F1) V V V) V (A5 (J3 V) V (F19 ((I99 Int 1 E3 10 0 V V)) (A5 (C1 (c:=F6) (ys:=g0) (D2 V V V V F1) V V V) V (A6 V V (A4 ?_)))))))));refine k1 (k2 (A2 (A3 V V (C9 (hL) V V V ?_))));rintro _ rfl;refine A3 V V (H0 V V V (H0 V V V (A6 V V (A6 V V (A4 ?_)))));refine k1 (k2 (A2 (A3 V V (C9 (H16) V V V ?_))));rintro _ rfl;refine A3 V V (H0 V V V (H0 V V V (A6 V V (A6 V V (A4 ?_)))));refine k1 (k2 (A2 (A3 V V (C9 (hC) V V V ?_))));rintro _ rfl;refine A3 V V (H0 V V V (H0 V V V (A6 V V (A6 V V (A4 ?_)))));refine k1 (k2 (A2 (A3 V V (A5 (F8 V V) V (A3 V V (H9 V V V V (A3 V V (H9 V V V V (A5 (F8 V V) V (A5 (V8 V (rfl) V) V (A3 V V (H9 V V V V (A3 V V (H9 V V V V (A5 (F8 V V) V (A5 (V8 V (rfl) V) V (A3 V V (H9 V V V V (A3 V V (H9 V V V V (A5 (C1 (c:=E3) (ys:=[(0:Int)]) (D2 V V V V F1) V V V) V (H9 V V V V (C9 (A76 [0] (by decide)) V V V ?_)))))))))))))))))))))));rintro _ rfl;refine A5 (V8 V (rfl) V) V (A3 V V (H9 V V V V (A3 V V (H9 V V V V (A5 (C1 (c:=E3) (ys:=[(0:Int)]) (D2 V V V V F1) V V V) V (H9 V V V V (C9 (A76 [0] (by decide)) V V V ?_)))))));rintro _ rfl;refine A5 (V8 V (rfl) V) V (A3 V V (H9 V V V V (A3 V V (H9 V V V V (A5 (C1 (c:=E3) (ys:=[(2:Int)]) (D2 V V V V F1) V V V) V (H9 V V V V (C9 (A76 [2] (by decide)) V V V ?_)))))));rintro _ rfl;refine A5 (V8 V (rfl) V) V (A6 V V (A4 ?_));refine k1 (k10 ?_)
 exact B6 (rs:=[H8 true]) (G7 rfl rfl rfl) rfl
theorem E62 (raw:List Int) (start:Int) (s:Str) (fit:Bool) (hs:s.length≤1073741824):FnOk Tryz.prog 3 [I0 raw,E6 start,L2 s,H8 fit] (fun rs=>rs=[H8 true]):=by
 refine FnOk.intro Tryz.func3 (by decide) V V V V ?_
 refine k2 (A2 (A6 V V (A4 ?_)));refine k1 (k2 (A2 (A3 V V (C9 (I10 raw 6 3 (by omega) (by omega)) V V V ?_))));rintro _ ⟨g,rfl,hg⟩;refine A6 V V (A4 ?_)
 have hF:=hg.few (by decide)
 have hS:=hg.short
 have hgl:=hg.len
 refine k1 (k2 (k2 (A2 (A3 V V (A3 V V (B1 V V V V (fun hg=>by rw [hg];exact B7 V V) ?_))))));refine B1 V V V V (fun hg=>by rw [hg];exact U0 V (.pure _ _ _ _)) ?_;refine B1 V V V V (fun hg=>by rw [hg];exact L7 V V) ?_;refine I5 V V ?_;refine A4 ?_;refine k1 ?_;refine D86 (X:=Int × Str) (fun x=>([(0,C7 Int 1 E3 raw),(1,C0 x.1),(2,S3 x.2),(9,C7 Commit 3 F6 g)],[])) (fun x=>x.2.length≤1073741824) ?_ ?_
 ·refine B0 rfl (fun ht=>?_) (fun ht=>?_)
  ·rw [n8,J15] at ht
   have h2:=A0 ht.2
   refine k2 (A2 (A3 V V (A3 V V (E1 V V (C9 (B35 start g.length (by omega) (by omega)) V V V ?_)))));rintro _ rfl;refine A6 V V (A4 ?_);refine k1 (A2 (A3 V V (C9 (I25 raw) V V V ?_)));rintro _ ⟨nm,rfl,hnm⟩;refine A6 V V (A4 ?_);refine k1 ?_
   exact ⟨(b9 start g.length,nm),by dsimp only;omega,(I89 ⟨le1 rfl,le1 rfl,le1 rfl,le1 rfl,trivial⟩ trivial)⟩
  ·refine k5 (k1 ?_)
   exact ⟨(start,s),hs,(I89 ⟨le1 rfl,le1 rfl,le1 rfl,le1 rfl,trivial⟩ trivial)⟩
 rintro ⟨st,nd⟩ hn
 dsimp only at hn ⊢
 obtain ⟨a,ha⟩:∃a,a=O8 g st nd:=⟨_,rfl⟩
 obtain ⟨b,hb⟩:∃b,b=O7 g st nd:=⟨_,rfl⟩
 have h1:=D23 g st nd hF hS hn
 have h2:=G11 g st nd hF hn
 have h3:=E01 g st nd hF hS hn
 have h4:=G86 g st nd hF hn
 rw [←ha] at h1 h2
 rw [←hb] at h3 h4
 have hal:a.1.length≤1099511627776:=by rw [ha];have:=G28 g st nd;omega
 have hbl:b.1.length≤1099511627776:=by rw [hb];have:=F51 g st nd;omega
 refine k2 (A2 (A3 V V (A3 V V (A3 V V (C9 (h1) V V V ?_)))));rintro _ rfl;refine A3 V V (H0 V V V (H0 V V V (A6 V V (A6 V V (A4 ?_)))));refine k1 (k2 (A2 (A3 V V (A3 V V (A3 V V (C9 (h2) V V V ?_))))));rintro _ rfl;refine A3 V V (H0 V V V (H0 V V V (A6 V V (A6 V V (A4 ?_)))));refine k1 (k2 (A2 (A3 V V (A3 V V (A3 V V (C9 (h3) V V V ?_))))));rintro _ rfl;refine A3 V V (H0 V V V (H0 V V V (A6 V V (A6 V V (A4 ?_)))));refine k1 (k2 (A2 (A3 V V (A3 V V (A3 V V (C9 (h4) V V V ?_))))));rintro _ rfl;refine A3 V V (H0 V V V (H0 V V V (A6 V V (A6 V V (A4 ?_)))));refine k1 (k2 (A2 (A3 V V (A3 V V (C9 (A76 a.1 hal) V V V ?_)))));rintro _ rfl;refine A3 V V (H9 V V V V (A3 V V (H9 V V V V (A3 V V (H9 V V V V (A5 (F8 V V) V (A5 (V8 V (rfl) V) V (A3 V V (H9 V V V (decide_eq_true V) (A3 V V (H9 V V V (decide_eq_true V) (A3 V V (H9 V V V (decide_eq_true V) (C9 (A76 b.1 hbl) V V V ?_))))))))))))));rintro _ rfl;refine A5 (V8 V ((decide_eq_true V)) V) V (A3 V V (H9 V V V V (A3 V V (H9 V V V V (A3 V V (H9 V V V V (A5 (F8 V V) V (A5 (V8 V (rfl) V) V (A3 V V (H9 V V V (decide_eq_true V) (C9 (H17) V V V ?_)))))))))));rintro _ rfl;refine A5 (V8 V ((decide_eq_true V)) V) V (A6 V V (A4 ?_));refine k1 (k10 ?_)
 exact B6 (rs:=[H8 true]) (G7 rfl rfl rfl) rfl
end Go.Proofs.YtfhbolepaojekaaGreatDoor
