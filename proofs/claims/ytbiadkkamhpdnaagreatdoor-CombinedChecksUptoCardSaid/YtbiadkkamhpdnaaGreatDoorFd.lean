/- Walks of the program's functions. -/
import Derived.Test.YtbiadkkamhpdnaaGreatDoorFc
import Derived.Test.YtbiadkkamhpdnaaGreatDoorFs
import Derived.Test.YtbiadkkamhpdnaaGreatDoorFb
import Derived.Test.YtbiadkkamhpdnaaGreatDoorAn
set_option linter.unusedSimpArgs false
namespace Go.Proofs.YtbiadkkamhpdnaaGreatDoor
open Go Go.AL
set_option maxRecDepth 100000
set_option maxHeartbeats 1000000
theorem tid_old {gf:Fr} {ob:Obs} (names:List Str) (s:Str) (hs:s∈names) (h0:C7 ob 710=some (.box [.mut 711,.buf 712 Str 1 M5 names])) (h1:C7 ob 711=some (.map Str B66 (A34 names 0))) :
  AL.Met Tryz.prog 218 [.one (.ref 710 0),.one (.p (.v (.string ⟨s.toArray⟩)))] gf ob [] (fun rs ob'=>rs=[.one (.p (.v (.int .i64 (I5 names s 0))))]∧ob'=ob):=by
 have hg:=F85 s names 0 hs
 refine AL.Met.intro Tryz.func218 (by decide) Z Z Z ?_
 refine k2 (A3 (A7 Z Z (A5 ?_)));refine k1 (k2 (A3 (A4 Z Z (A6 (D9 Z) Z (A6 (A8 Z) Z (A6 (B5 Z h0 Z) Z (A4 Z Z (A6 (G76 (s) (r:=some (.v (.int .i64 (I5 names s 0)))) Z h1 Z E32 E33 (hg)) Z (A4 Z Z (H9 Z Z Z (H9 Z Z Z (A7 Z Z (A7 Z Z (A5 ?_))))))))))))));refine k1 (k2 (k2 (A3 (A4 Z Z (O6 Z Z (A5 ?_))))));refine k1 ?_;refine B3 rfl (fun ht=>?_) (fun ht=>?_)
 ·cases ht
 refine k5 (k1 (k2 (A3 (A4 Z Z (A7 Z Z (A5 ?_))))));refine k1 (k10 ?_)
 exact l8 (C81 rfl rfl) (by repeat (first | exact I9 | refine J0 rfl ?_ | refine P2 _ ?_)) (fun _ _ h=>h) ⟨rfl,rfl⟩
theorem tid_new {gf:Fr} {ob:Obs} (names:List Str) (s:Str) (hs:s∉names) (hl:names.length≤1073741823) (h0:C7 ob 710=some (.box [.mut 711,.buf 712 Str 1 M5 names])) (h1:C7 ob 711=some (.map Str B66 (A34 names 0)))
  (h2:C7 ob 712=some (.spare names.length 1 9)) :
  AL.Met Tryz.prog 218 [.one (.ref 710 0),.one (.p (.v (.string ⟨s.toArray⟩)))] gf ob [712] (fun rs ob'=>rs=[.one (.p (.v (.int .i64 names.length)))]∧ob'=(710,.box [.mut 711,.buf 712 Str 1 M5 (names++[s])])::(712,.spare (names++[s]).length 1 9)::Obs.forget 712 ((711,.map Str B66 (A34 names 0++[(s,.v (.int .i64 names.length))]))::ob)):=by
 have hg:=E84 s names 0 hs
 refine AL.Met.intro Tryz.func218 (by decide) Z Z Z ?_
 refine k2 (A3 (A7 Z Z (A5 ?_)));refine k1 (k2 (A3 (A4 Z Z (A6 (D9 Z) Z (A6 (A8 Z) Z (A6 (B5 Z h0 Z) Z (A4 Z Z (A6 (G76 (s) (r:=none) Z h1 Z E32 E33 (hg)) Z (A4 Z Z (H9 Z Z Z (H9 Z Z Z (A7 Z Z (A7 Z Z (A5 ?_))))))))))))));refine k1 (k2 (k2 (A3 (A4 Z Z (O6 Z Z (A5 ?_))))));refine k1 ?_;refine B3 rfl (fun ht=>?_) (fun ht=>?_)
 ·refine k2 (A3 (A4 Z Z (A6 (D9 Z) Z (A6 (A8 Z) Z (A6 (B5 Z h0 Z) Z (A6 (V3 Z (.buf _ _ _ _ _)) Z (A7 Z Z (A5 ?_))))))));refine k1 (k2 (A3 (A4 Z Z (A6 (D9 Z) Z (A6 (A8 Z) Z (A6 (B5 Z h0 Z) Z (A4 Z Z (A4 Z Z (F8 (J33 (s) Z h1 Z Z Z E32 E33 (hg)) (A5 ?_))))))))));refine k1 ?_
  have h0':C7 ((711,Ob.map Str B66 (A34 names 0++[(s,.v (.int .i64 names.length))]))::ob) 710=some (.box [.mut 711,.buf 712 Str 1 M5 names]):=by rw [B4 (by decide)];exact h0
  have h2':C7 ((711,Ob.map Str B66 (A34 names 0++[(s,.v (.int .i64 names.length))]))::ob) 712=some (.spare names.length 1 9):=by rw [B4 (by decide)];exact h2
  have h0'':C7 ((712,Ob.spare (names++[s]).length 1 9)::Obs.forget 712 ((711,Ob.map Str B66 (A34 names 0++[(s,.v (.int .i64 names.length))]))::ob)) 710=some (.box [.mut 711,.p (.list Str 1 M5 names)]):=by
   rw [B4 (by decide),S5,h0'];rfl
  refine A3 (A4 Z Z (A4 Z Z (A6 (D9 Z) Z (A6 (A8 Z) Z (A6 (B5 Z h0' Z) Z (A4 Z Z (A6 (D5 (c:=M5) (ys:=[s]) (E0 Z Z Z Z F3) Z Z Z) Z (C1 (G4 Z h2' Z (.pure _ _ _ _) (by (simp only [K08,K11];omega)) Z) Z (A6 (D9 Z) Z (A6 (A8 Z) Z (F8 (B8 TySz.out Z h0'' Z Z Z Z) (A5 ?_))))))))))));refine k1 (k2 (A3 (A4 Z Z (A7 Z Z (A5 ?_)))));refine k1 (k10 ?_)
  exact l8 (C81 rfl rfl) (by repeat (first | exact I9 | refine J0 rfl ?_ | refine P2 _ ?_)) (fun _ _ h=>h) ⟨rfl,rfl⟩
 ·cases ht
theorem H70 (files:List (List Str)) (i m:Nat):(R6 files i).all (TC.free m)=true:=by
 rw [List.all_eq_true]
 intro t ht
 unfold R6 at ht
 obtain ⟨r,_,rfl⟩:=List.mem_map.1 ht
 split<;>rfl
theorem I80 {files:List (List Str)} {i:Nat} (b x:TC) (m:Nat):(((R6 files i).set i b).map (TC.forget m)).set i x=(R6 files i).set i x:=by
 have e1:(R6 files i).map (TC.forget m)=R6 files i:=by
  unfold R6
  rw [K40]
  apply List.map_congr_left
  intro r _
  simp only [Function.comp]
  split<;>rfl
 rw [List.map_set,e1,List.set_set]
theorem H71 {files:List (List Str)} {i:Nat} (b x:TC) (m m':Nat):((((R6 files i).set i b).map (TC.forget m)).map (TC.forget m')).set i x=(R6 files i).set i x:=by
 have e1:∀m,(R6 files i).map (TC.forget m)=R6 files i:=by
  intro m
  unfold R6
  rw [K40]
  apply List.map_congr_left
  intro r _
  simp only [Function.comp]
  split<;>rfl
 rw [List.map_set,e1,List.map_set,e1,List.set_set]
theorem F69 (files:List (List Str)) (hn:files.length≤1048576) (hl:files.flatten.length≤536870911):FnOk Tryz.prog 175 [pStrss files] (fun rs=>rs=[pIntss (files.map (L2 (E5 files))),x4 (E5 files)]):=by
 refine FnOk.intro Tryz.func175 (by decide) Z Z Z Z ?_
 refine k2 (A3 (A7 Z Z (A7 Z Z (A5 ?_))));refine k1 (k2 (A3 (C1 (I66 711 Str B66 Z) Z (A6 (H1 Z) Z (C1 (R4 710 Z Z Z) Z (A7 Z Z (A5 ?_)))))));refine k1 (k2 (G5 (J76 712 Str 1 M5 9 (kb:=710) (o:=1) Z Z Z) ?_))
 refine A3 (A4 Z Z (E7 Z Z (C1 (Y0 20 Unit (fun _ _=>.v (.slice none 0 0)) () Z Z (by omega) (by omega) (fun _=>by first | exact ⟨⟨rfl,rfl⟩,trivial⟩ | exact ⟨P6 _ _ _,trivial⟩) (by first | rfl | (simp [I1,I7,Ob.free,SV.free,S1.free,TC.free]<;>rfl))) Z ?_)));refine A7 Z Z (A5 ?_);refine k1 (k2 (k2 (G5 (J87 20 Z) ?_)))
 have hz:((List.replicate ((files.length:Nat):Int).toNat ()).map fun x=>TC.p ((fun (_:Unit) (_:Nat)=>Cell.v (.slice none 0 0)) x 0))=R6 files 0:=by
  rw [K12,←I02];simp
 have hz2:(List.replicate ((files.length:Nat):Int).toNat ()).length=files.length:=by simp
 rw [hz,hz2]
 refine A3 (A4 Z Z (E7 Z Z (A4 Z Z (A5 ?_))));refine k1 (k3 ?_);refine D6 (X:=Nat) (fun i=>([(4,.s (.one (.ref 710 0))),(5,.s (.one (.mut 20))),(16,C3 (List Str) 1 strsC files),(17,B9 files.length),(18,B9 i)],[(710,.box [.mut 711,.buf 712 Str 1 M5 (P8 files i 0)]),(711,.map Str B66 (A34 (P8 files i 0) 0)),(712,.spare (P8 files i 0).length 1 9),(20,.tarr files.length 1 (R6 files i))])) (fun i=>i≤files.length) (fun i=>files.length - i) 0 (Nat.zero_le _) ?_ ?_
 ·rw [show P8 files 0 0=[] from rfl]
  exact J69 ⟨le1 rfl,le1 rfl,le1 rfl,le1 rfl,le1 rfl,trivial⟩ ⟨rfl,rfl,rfl,rfl,trivial⟩
 intro i hi
 dsimp only at hi ⊢
 refine k2 (A3 (E4 Z Z Z (A5 ?_)));refine k1 (k2 ?_);refine B3 rfl (fun ht=>?_) (fun ht=>?_)
 ·have hlt:i < files.length:=by have:=A0 ht;omega
  obtain ⟨f,hf⟩:∃f,f=files.getD i []:=⟨_,rfl⟩
  have hv:files[i]?=some f:=by rw [hf];simp [hlt]
  have hfl:f.length≤files.flatten.length:=by
   have h1:f∈files:=K27 hv
   have:∀(fs:List (List Str)),f∈fs→f.length≤fs.flatten.length:=by
    intro fs
    induction fs with
    | nil=>intro h;simp at h
    | cons x r ih =>
     intro h
     simp only [K25,K06]
     rcases List.mem_cons.1 h with rfl | h
     ·omega
     ·have:=ih h;omega
   exact this files h1
  have hrl:(R6 files i).length=files.length:=by simp [R6]
  refine k5 (k1 (k2 (k3 (k2 (A3 (A4 Z Z (A6 (B0 Z (.pure _ _ _ _) Z (by omega) hv) Z (A6 (B1 Z Z) Z (A7 Z Z (A7 Z Z (A5 ?_)))))))))));refine k1 (k2 (A3 (A4 Z Z (E7 Z Z (A4 Z Z (A5 ?_))))));refine k1 (k3 (G5 (K01 713 Int 1 F7 3 (kb:=20) (o:=i) Z (J14 hlt) (by simp [I1,I7,Ob.free,SV.free,S1.free,TC.free,H70];repeat' (first | rfl | constructor))) ?_))
  refine D6 (X:=Nat) (fun j=>([(4,.s (.one (.ref 710 0))),(5,.s (.one (.mut 20))),(6,B9 i),(16,C3 (List Str) 1 strsC files),(17,B9 files.length),(18,B9 i),(23,C3 Str 1 M5 f),(24,B9 f.length),(25,B9 j)],[(20,.tarr files.length 1 ((R6 files i).set i (.buf 713 Int 1 F7 (L2 (E5 files) (f.take j))))),(710,.box [.mut 711,.buf 712 Str 1 M5 (P8 files i j)]),(711,.map Str B66 (A34 (P8 files i j) 0)),(712,.spare (P8 files i j).length 1 9),(713,.spare (L2 (E5 files) (f.take j)).length 1 3)])) (fun j=>j≤f.length) (fun j=>f.length - j) 0 (Nat.zero_le _) ?_ ?_
  ·exact J69 ⟨le1 rfl,le1 rfl,le1 rfl,le1 rfl,le1 rfl,le1 rfl,le1 rfl,le1 rfl,le1 rfl,trivial⟩ ⟨rfl,rfl,rfl,rfl,rfl,trivial⟩
  intro j hj
  dsimp only at hj ⊢
  refine k2 (A3 (E4 Z Z Z (A5 ?_)));refine k1 (k2 ?_);refine B3 rfl (fun ht=>?_) (fun ht=>?_)
  ·have hlt2:j < f.length:=by have:=A0 ht;omega
   obtain ⟨s,hs⟩:∃s,s=f[j]:=⟨_,rfl⟩
   have hvs:f[j]?=some s:=by rw [hs];simp [hlt2]
   have hstep:=G53 files i j s (by rw [←hf];exact hvs)
   obtain ⟨names,hnm⟩:∃names,names=P8 files i j:=⟨_,rfl⟩
   have hnl:=E85 files i j
   obtain ⟨rest,hrest⟩:=D85 files i (j+1)
   obtain ⟨ids,hids⟩:∃ids,ids=L2 (E5 files) (f.take j):=⟨_,rfl⟩
   have hil:ids.length=j:=by rw [hids];simp [L2];omega
   have hnext:L2 (E5 files) (f.take (j+1))=ids++[I5 (E5 files) s 0]:=by
    rw [hids,K16 hlt2,←hs];unfold L2;rw [K20];rfl
   rw [hstep] at hrest
   rw [←hnm] at hstep hnl hrest ⊢
   rw [←hids]
   have hTi:((R6 files i).set i (.buf 713 Int 1 F7 ids))[((i:Nat):Int).toNat]?=some (.buf 713 Int 1 F7 ids):=by
    rw [K12,K48 (by rw [hrl];omega)]
   have hTi2:(((R6 files i).set i (.buf 713 Int 1 F7 ids)).map (TC.forget 712))[((i:Nat):Int).toNat]?=some (.buf 713 Int 1 F7 ids):=by
    rw [K34,hTi];rfl
   refine k5 (k1 (k2 (k3 (k2 (A3 (A6 (B0 Z (.pure _ _ _ _) Z (by omega) hvs) Z (A6 (B1 Z Z) Z (A7 Z Z (A5 ?_)))))))))
   by_cases hmem:s∈names
   ·have hns:J1 names s=names:=by unfold J1;rw [if_pos hmem]
    rw [hns] at hstep hrest
    have hpl:I5 (E5 files) s 0=I5 names s 0:=by rw [hrest];exact C06 s rest names 0 hmem
    refine L0 ?_
    refine M9 ((9,X6 s)::[(4,.s (.one (.ref 710 0))),(5,.s (.one (.mut 20))),(6,B9 i),(16,C3 (List Str) 1 strsC files),(17,B9 files.length),(18,B9 i),(23,C3 Str 1 M5 f),(24,B9 f.length),(25,B9 j)]) [(20,.tarr files.length 1 ((R6 files i).set i (.buf 713 Int 1 F7 ids))),(710,.box [.mut 711,.buf 712 Str 1 M5 names]),(711,.map Str B66 (A34 names 0)),(712,.spare names.length 1 9),(713,.spare ids.length 1 3)] (J69 ⟨le1 rfl,le1 rfl,le1 rfl,le1 rfl,le1 rfl,le1 rfl,le1 rfl,le1 rfl,le1 rfl,le1 rfl,trivial⟩ ⟨rfl,rfl,rfl,rfl,rfl,trivial⟩) ?_
    refine T7 [12,10,8] [[],[8],[10,8],[12,10,8]] [(8,([],[])),(10,([713],[34])),(12,([],[]))] [(0,[]),(1,[]),(2,[]),(3,[]),(4,[]),(5,[]),(6,[]),(7,[]),(8,[]),(9,[8]),(10,[8]),(11,[10,8]),(12,[10,8])] [(0,[8]),(0,[10,8]),(1,[8]),(1,[10,8]),(2,[8]),(3,[8]),(4,[8]),(5,[8])] (by kernel_rfl) (by kernel_rfl) (E2 Z Z (by kernel_rfl) Z Z (B7 Z Z) (E2 Z Z (by kernel_rfl) Z Z (B7 Z Z) (E2 Z Z (by kernel_rfl) Z Z (B7 Z Z) (E2 Z Z (by kernel_rfl) Z Z (B7 Z Z) (E2 Z Z (by kernel_rfl) Z Z (I4 Z Z Z (by omega) (by omega)) (E2 Z Z (by kernel_rfl) Z Z (N4 Z Z (by first | exact hTi | exact hTi2)) ?_))))));refine E2 Z Z (by kernel_rfl) Z Z (B7 Z Z) (E2 Z Z (by kernel_rfl) Z Z (B7 Z Z) (X7 Z Z (by kernel_rfl) Z Z (r_met (fun gf=>tid_old names s hmem Z Z) Z Z) Z (E2 Z Z (by kernel_rfl) Z Z (D5 (c:=F7) (ys:=[I5 names s 0]) (E0 Z Z Z Z F3) Z Z Z) (X7 Z Z (by kernel_rfl) Z Z (B78 (fun frc hU=>G4 (W8 hU Z) Z (W8 hU Z) (.pure _ _ _ _) (by (simp only [K08,K11];omega)) Z)) Z (E2 Z Z (by kernel_rfl) Z Z (I4 Z Z Z (by omega) (by omega)) (X7 Z Z (by kernel_rfl) Z Z (D60 (fun frc hU=>s9 TySz.out (W8 hU Z) Z (by (simp;omega)) (W8 hU Z) Z)) Z ?_))))));refine D59 (by kernel_rfl) rfl ?_ ?_
    ·refine G1 Z Z (by kernel_rfl) Z Z (B7 Z Z) (G1 Z Z (by kernel_rfl) Z Z (B7 Z Z) (G1 Z Z (by kernel_rfl) Z Z (B7 Z Z) (G1 Z Z (by kernel_rfl) Z Z (B7 Z Z) (G1 Z Z (by kernel_rfl) Z Z (B7 Z Z) (G1 Z Z (by kernel_rfl) Z Z (B7 Z Z) (G1 Z Z (by kernel_rfl) Z Z (I4 Z Z Z (by omega) (by omega)) (G1 Z Z (by kernel_rfl) Z Z (N4 Z Z (by first | exact hTi | exact hTi2)) ?_)))))));exact C88
    refine M9 [(4,.s (.one (.ref 710 0))),(5,.s (.one (.mut 20))),(6,B9 i),(16,C3 (List Str) 1 strsC files),(17,B9 files.length),(18,B9 i),(23,C3 Str 1 M5 f),(24,B9 f.length),(25,B9 j)] [(20,.tarr files.length 1 ((R6 files i).set i (.buf 713 Int 1 F7 (ids++[I5 names s 0])))),(710,.box [.mut 711,.buf 712 Str 1 M5 (names)]),(711,.map Str B66 (A34 (names) 0)),(712,.spare (names).length 1 9),(713,.spare (ids++[I5 names s 0]).length 1 3)] (by rw [K12 i,I80];exact J69 ⟨le1 rfl,le1 rfl,le1 rfl,le1 rfl,le1 rfl,le1 rfl,le1 rfl,le1 rfl,le1 rfl,trivial⟩ ⟨rfl,rfl,rfl,rfl,rfl,trivial⟩) ?_
    refine A3 (C6 Z Z Z (A4 Z Z (A5 ?_)));refine k1 ?_
    exact ⟨j+1,hlt2,by omega,by rw [hstep,hnext,hpl];exact J69 ⟨le1 rfl,le1 rfl,le1 rfl,le1 rfl,le1 rfl,le1 rfl,le1 rfl,le1 rfl,le1 rfl,trivial⟩ ⟨rfl,rfl,rfl,rfl,rfl,trivial⟩⟩
   ·refine L0 ?_
    have hns:J1 names s=names++[s]:=by unfold J1;rw [if_neg hmem]
    rw [hns] at hstep hrest
    have hkv:A34 (names++[s]) 0=A34 names 0++[(s,.v (.int .i64 (names.length:Int)))]:=by rw [F84];simp only [Int.zero_add]
    have hpl:I5 (E5 files) s 0=names.length:=by
     rw [hrest,C06 s rest (names++[s]) 0 (by simp),D84 s names 0 hmem];omega
    refine M9 ((9,X6 s)::[(4,.s (.one (.ref 710 0))),(5,.s (.one (.mut 20))),(6,B9 i),(16,C3 (List Str) 1 strsC files),(17,B9 files.length),(18,B9 i),(23,C3 Str 1 M5 f),(24,B9 f.length),(25,B9 j)]) [(20,.tarr files.length 1 ((R6 files i).set i (.buf 713 Int 1 F7 (ids)))),(710,.box [.mut 711,.buf 712 Str 1 M5 (names)]),(711,.map Str B66 (A34 (names) 0)),(712,.spare (names).length 1 9),(713,.spare (ids).length 1 3)] (J69 ⟨le1 rfl,le1 rfl,le1 rfl,le1 rfl,le1 rfl,le1 rfl,le1 rfl,le1 rfl,le1 rfl,le1 rfl,trivial⟩ ⟨rfl,rfl,rfl,rfl,rfl,trivial⟩) ?_
    refine T7 [12,10,8] [[],[8],[10,8],[12,10,8]] [(8,([712],[])),(10,([713],[34])),(12,([],[]))] [(0,[]),(1,[]),(2,[]),(3,[]),(4,[]),(5,[]),(6,[]),(7,[]),(8,[]),(9,[8]),(10,[8]),(11,[10,8]),(12,[10,8])] [(0,[8]),(0,[10,8]),(1,[8]),(1,[10,8]),(2,[8]),(3,[8]),(4,[8]),(5,[8])] (by kernel_rfl) (by kernel_rfl) (E2 Z Z (by kernel_rfl) Z Z (B7 Z Z) (E2 Z Z (by kernel_rfl) Z Z (B7 Z Z) (E2 Z Z (by kernel_rfl) Z Z (B7 Z Z) (E2 Z Z (by kernel_rfl) Z Z (B7 Z Z) (E2 Z Z (by kernel_rfl) Z Z (I4 Z Z Z (by omega) (by omega)) (E2 Z Z (by kernel_rfl) Z Z (N4 Z Z (by first | exact hTi | exact hTi2)) ?_))))));refine E2 Z Z (by kernel_rfl) Z Z (B7 Z Z) (E2 Z Z (by kernel_rfl) Z Z (B7 Z Z) (X7 Z Z (by kernel_rfl) Z Z (r_met (fun gf=>tid_new names s hmem (by omega) Z Z Z) Z Z) Z (E2 Z Z (by kernel_rfl) Z Z (D5 (c:=F7) (ys:=[(names.length:Int)]) (E0 Z Z Z Z F3) Z Z Z) (X7 Z Z (by kernel_rfl) Z Z (B78 (fun frc hU=>G4 (W8 hU Z) Z (W8 hU Z) (.pure _ _ _ _) (by (simp only [K08,K11];omega)) Z)) Z (E2 Z Z (by kernel_rfl) Z Z (I4 Z Z Z (by omega) (by omega)) (X7 Z Z (by kernel_rfl) Z Z (D60 (fun frc hU=>s9 TySz.out (W8 hU Z) Z (by (simp;omega)) (W8 hU Z) Z)) Z ?_))))));refine D59 (by kernel_rfl) rfl ?_ ?_
    ·refine G1 Z Z (by kernel_rfl) Z Z (B7 Z Z) (G1 Z Z (by kernel_rfl) Z Z (B7 Z Z) (G1 Z Z (by kernel_rfl) Z Z (B7 Z Z) (G1 Z Z (by kernel_rfl) Z Z (B7 Z Z) (G1 Z Z (by kernel_rfl) Z Z (B7 Z Z) (G1 Z Z (by kernel_rfl) Z Z (B7 Z Z) (G1 Z Z (by kernel_rfl) Z Z (I4 Z Z Z (by omega) (by omega)) (G1 Z Z (by kernel_rfl) Z Z (N4 Z Z (by first | exact hTi | exact hTi2)) ?_)))))));exact C88
    refine M9 [(4,.s (.one (.ref 710 0))),(5,.s (.one (.mut 20))),(6,B9 i),(16,C3 (List Str) 1 strsC files),(17,B9 files.length),(18,B9 i),(23,C3 Str 1 M5 f),(24,B9 f.length),(25,B9 j)] [(20,.tarr files.length 1 ((R6 files i).set i (.buf 713 Int 1 F7 (ids++[(names.length:Int)])))),(710,.box [.mut 711,.buf 712 Str 1 M5 (names++[s])]),(711,.map Str B66 (A34 (names++[s]) 0)),(712,.spare (names++[s]).length 1 9),(713,.spare (ids++[(names.length:Int)]).length 1 3)] (by rw [K12 i,H71,hkv];exact J69 ⟨le1 rfl,le1 rfl,le1 rfl,le1 rfl,le1 rfl,le1 rfl,le1 rfl,le1 rfl,le1 rfl,trivial⟩ ⟨rfl,rfl,rfl,rfl,rfl,trivial⟩) ?_
    refine A3 (C6 Z Z Z (A4 Z Z (A5 ?_)));refine k1 ?_
    exact ⟨j+1,hlt2,by omega,by rw [hstep,hnext,hpl];exact J69 ⟨le1 rfl,le1 rfl,le1 rfl,le1 rfl,le1 rfl,le1 rfl,le1 rfl,le1 rfl,le1 rfl,trivial⟩ ⟨rfl,rfl,rfl,rfl,rfl,trivial⟩⟩
  ·have hj2:j=f.length:=by have:=A1 ht;omega
   subst hj2
   rw [K28]
   refine k6 (k7 (k7 (k8 Z (k4 (k1 (G5 (Sees.forget 713) ?_))))))
   have hfr:((R6 files i).set i (.buf 713 Int 1 F7 (L2 (E5 files) f))).map (TC.forget 713)=R6 files (i+1):=by rw [hf];exact G54 files i 713 hlt
   have hnr:P8 files (i+1) 0=P8 files i f.length:=by rw [hf];exact H27 files i
   refine M9 [(4,.s (.one (.ref 710 0))),(5,.s (.one (.mut 20))),(16,C3 (List Str) 1 strsC files),(17,B9 files.length),(18,B9 i)] [(710,.box [.mut 711,.buf 712 Str 1 M5 (P8 files (i+1) 0)]),(711,.map Str B66 (A34 (P8 files (i+1) 0) 0)),(712,.spare (P8 files (i+1) 0).length 1 9),(20,.tarr files.length 1 (R6 files (i+1)))] (by rw [hnr,←hfr];exact J69 ⟨le1 rfl,le1 rfl,le1 rfl,le1 rfl,le1 rfl,trivial⟩ ⟨rfl,rfl,rfl,rfl,trivial⟩) ?_
   refine A3 (C6 Z Z Z (A4 Z Z (A5 ?_)));refine k1 ?_
   exact ⟨i+1,hlt,by omega,J69 ⟨le1 rfl,le1 rfl,le1 rfl,le1 rfl,le1 rfl,trivial⟩ ⟨rfl,rfl,rfl,rfl,trivial⟩⟩
 ·have hi2:i=files.length:=by have:=A1 ht;omega
  rw [hi2,H28]
  refine G5 (J88 20 (c:=intsC) (files.map (L2 (E5 files))) Z (by simp) (I03 files)) ?_
  refine G5 (Sees.freeze (k:=20) Z) ?_
  refine G5 (Sees.forget 712) ?_
  refine k6 (k2 (C9 (by kernel_rfl) (by kernel_rfl) (C8 Z Z (C8 Z Z (A9 (D9 Z) Z Z (A9 (A8 Z) Z Z (A9 (B5 Z Z Z) Z Z (A9 (J6 Z Z) Z Z (A9 (J6 Z Z) Z Z (L6 ?_))))))))));refine k1 (k10 ?_)
  exact B6 (s6 rfl rfl rfl rfl rfl) rfl
theorem G23 (files:List (List Str)) (hn:files.length≤1048576) (hl:files.flatten.length≤536870911):FnOk Tryz.prog 108 [pStrss files] (fun rs=>rs=[pIntss (files.map (L2 (E5 files)))]):=by
 refine FnOk.intro Tryz.func108 (by decide) Z Z Z Z ?_
 refine k2 (A3 (A7 Z Z (A5 ?_)));refine k1 (k2 (A3 (A4 Z Z (C4 (F69 files hn hl) Z Z Z ?_))));rintro _ rfl;refine A4 Z Z (H9 Z Z Z (H9 Z Z Z (A7 Z Z (A7 Z Z (A5 ?_)))));refine k1 (k2 (A3 (A4 Z Z (A7 Z Z (A5 ?_)))));refine k1 (k10 ?_)
 exact B6 (G6 rfl rfl rfl) rfl
end Go.Proofs.YtbiadkkamhpdnaaGreatDoor
namespace Go.Proofs.YtbiadkkamhpdnaaGreatDoor
open Go Go.AL
set_option maxRecDepth 100000
set_option maxHeartbeats 1000000
def hunkLs (hs:List PatchHunk) (r:Nat):List PatchLine:=((hs[r]?).map (·.Lines)).getD []
theorem B20 {α:Type} {ec:Nat} {c:α→Nat→Cell}:∀(xs:List α) (x:α),P1 ec c (xs++[x])=P1 ec c xs++P1 ec c [x]
 | [],x=>rfl
 | y::ys,x=>by
  have ih:=B20 (ec:=ec) (c:=c) ys x
  simp only [K45,P1] at ih ⊢
  rw [ih];simp [K18]
theorem E10 {α:Type} {ec:Nat} {c:α→Nat→Cell}:∀(xs:List α),∀t∈P1 ec c xs,∃z,t=TC.p z
 | [],t,h=>by cases h
 | x::xs,t,h=>by
  unfold P1 at h
  rcases List.mem_append.1 h with h | h
  ·obtain ⟨z,_,rfl⟩:=List.mem_map.1 h
   exact ⟨_,rfl⟩
  ·exact E10 xs t h
theorem A98 {α:Type} {ec:Nat} {c:α→Nat→Cell} (f:TC→TC) (hf:∀z,f (.p z)=.p z) (xs:List α):(P1 ec c xs).map f=P1 ec c xs:=by
 conv=>rhs;rw [←List.map_id (P1 ec c xs)]
 refine List.map_congr_left fun t ht=>?_
 obtain ⟨z,rfl⟩:=E10 xs t ht
 exact hf z
theorem C57 {α:Type} {ec:Nat} {c:α→Nat→Cell} (k:Nat) (xs:List α):(P1 ec c xs).all (TC.free k)=true:=by
 rw [List.all_eq_true]
 intro t ht
 obtain ⟨z,rfl⟩:=E10 xs t ht
 rfl
theorem E54 {Q:Nat→Ob→Prop}:∀{ob:Obs},(∀p∈ob,Q p.1 p.2)→∀i o,C7 ob i=some o→Q i o
 | [],_,_,_,h=>by cases h
 | (j,x)::r,hq,i,o,h=>by
  unfold C7 at h
  cases hb:Nat.beq j i
  ·rw [hb] at h;exact E54 (fun p hp=>hq p (List.mem_cons_of_mem _ hp)) i o h
  ·rw [hb] at h;cases h
   have e:j=i:=Nat.eq_of_beq_eq_true hb
   subst e
   exact hq (j,x) List.mem_cons_self
end Go.Proofs.YtbiadkkamhpdnaaGreatDoor
namespace Go.Proofs.YtbiadkkamhpdnaaGreatDoor
open Go Go.AL
set_option maxRecDepth 100000
def octOk (c:UInt8):Prop:=48≤c.toNat∧c.toNat≤55
def G94 (s:Str) (i q:Nat):Prop:=i+q < s.length∧octOk (s.getD (i+q) 0)
instance (s:Str) (i q:Nat):Decidable (G94 s i q):=by unfold G94 octOk;exact inferInstance
set_option maxHeartbeats 1000000
set_option maxHeartbeats 1000000
end Go.Proofs.YtbiadkkamhpdnaaGreatDoor
namespace Go.Proofs.YtbiadkkamhpdnaaGreatDoor
open Go Go.AL
set_option maxRecDepth 100000
end Go.Proofs.YtbiadkkamhpdnaaGreatDoor
