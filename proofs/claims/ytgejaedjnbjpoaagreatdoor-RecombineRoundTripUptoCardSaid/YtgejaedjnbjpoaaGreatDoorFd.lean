/- Walks of the program's functions. -/
import Derived.Test.YtgejaedjnbjpoaaGreatDoorFc
import Derived.Test.YtgejaedjnbjpoaaGreatDoorFs
import Derived.Test.YtgejaedjnbjpoaaGreatDoorFb
import Derived.Test.YtgejaedjnbjpoaaGreatDoorFa
namespace Go.Proofs.YtgejaedjnbjpoaaGreatDoor
open Go Go.AL
set_option maxRecDepth 100000
set_option maxHeartbeats 1000000
theorem tid_old {gf:Fr} {ob:Obs} (names:List Str) (s:Str) (hs:s∈names) (h0:C2 ob 710=some (.box [.mut 711,.buf 712 Str 1 M1 names])) (h1:C2 ob 711=some (.map Str B34 (A19 names 0))) :
  AL.Met Tryz.prog 198 [.one (.ref 710 0),.one (.p (.v (.string ⟨s.toArray⟩)))] gf ob [] (fun rs ob'=>rs=[.one (.p (.v (.int .i64 (I7 names s 0))))]∧ob'=ob):=by
 have hg:=G10 s names 0 hs
 refine AL.Met.intro Tryz.func198 (by decide) Z Z Z ?_
 refine k2 ?_
 refine A4 (A3 (A6 Z Z) Z (A7 ?_))
 refine k1 (k2 ?_)
 refine A4 (A3 (A5 Z Z) Z (A3 (B2 Z) Z (A3 (A8 Z) Z (A3 (A9 Z h0 Z) Z (A3 (A5 Z Z) Z (A3 (H10 (s) (r:=some (.v (.int .i64 (I7 names s 0)))) Z h1 Z E44 E45 (hg)) Z (A3 (A5 Z Z) Z (A3 (B3 Z Z) Z (A3 (B3 Z Z) Z (A3 (A6 Z Z) Z (A3 (A6 Z Z) Z (A7 ?_))))))))))))
 refine k1 (k2 (k2 ?_))
 refine A4 (A3 (A5 Z Z) Z (A3 (F0 Z) Z (A7 ?_)))
 refine k1 ?_
 refine B4 rfl (fun ht=>?_) (fun ht=>?_)
 ·cases ht
 refine k5 (k1 (k2 ?_))
 refine A4 (A3 (A5 Z Z) Z (A3 (A6 Z Z) Z (A7 ?_)))
 refine k1 (k10 ?_)
 exact G8 (R6 rfl rfl) (by repeat (first | exact C5 | refine tail_cons rfl ?_ | refine D3 _ ?_)) (fun _ _ h=>h) ⟨rfl,rfl⟩
theorem tid_new {gf:Fr} {ob:Obs} (names:List Str) (s:Str) (hs:s∉names) (hl:names.length≤1073741823) (h0:C2 ob 710=some (.box [.mut 711,.buf 712 Str 1 M1 names])) (h1:C2 ob 711=some (.map Str B34 (A19 names 0)))
  (h2:C2 ob 712=some (.spare names.length 1 9)) :
  AL.Met Tryz.prog 198 [.one (.ref 710 0),.one (.p (.v (.string ⟨s.toArray⟩)))] gf ob [712] (fun rs ob'=>rs=[.one (.p (.v (.int .i64 names.length)))]∧ob'=(710,.box [.mut 711,.buf 712 Str 1 M1 (names++[s])])::(712,.spare (names++[s]).length 1 9)::Obs.forget 712 ((711,.map Str B34 (A19 names 0++[(s,.v (.int .i64 names.length))]))::ob)):=by
 have hg:=F01 s names 0 hs
 refine AL.Met.intro Tryz.func198 (by decide) Z Z Z ?_
 refine k2 ?_
 refine A4 (A3 (A6 Z Z) Z (A7 ?_))
 refine k1 (k2 ?_)
 refine A4 (A3 (A5 Z Z) Z (A3 (B2 Z) Z (A3 (A8 Z) Z (A3 (A9 Z h0 Z) Z (A3 (A5 Z Z) Z (A3 (H10 (s) (r:=none) Z h1 Z E44 E45 (hg)) Z (A3 (A5 Z Z) Z (A3 (B3 Z Z) Z (A3 (B3 Z Z) Z (A3 (A6 Z Z) Z (A3 (A6 Z Z) Z (A7 ?_))))))))))))
 refine k1 (k2 (k2 ?_))
 refine A4 (A3 (A5 Z Z) Z (A3 (F0 Z) Z (A7 ?_)))
 refine k1 ?_
 refine B4 rfl (fun ht=>?_) (fun ht=>?_)
 ·refine k2 ?_
  refine A4 (A3 (A5 Z Z) Z (A3 (B2 Z) Z (A3 (A8 Z) Z (A3 (A9 Z h0 Z) Z (A3 (F1 Z (.buf _ _ _ _ _)) Z (A3 (A6 Z Z) Z (A7 ?_)))))))
  refine k1 (k2 ?_)
  refine A4 (A3 (A5 Z Z) Z (A3 (B2 Z) Z (A3 (A8 Z) Z (A3 (A9 Z h0 Z) Z (A3 (A5 Z Z) Z (A3 (A5 Z Z) Z (E5 (J94 (s) Z h1 Z Z Z E44 E45 (hg)) (A7 ?_))))))))
  refine k1 ?_
  have h0':C2 ((711,Ob.map Str B34 (A19 names 0++[(s,.v (.int .i64 names.length))]))::ob) 710=some (.box [.mut 711,.buf 712 Str 1 M1 names]):=by rw [B6 (by decide)];exact h0
  have h2':C2 ((711,Ob.map Str B34 (A19 names 0++[(s,.v (.int .i64 names.length))]))::ob) 712=some (.spare names.length 1 9):=by rw [B6 (by decide)];exact h2
  have h0'':C2 ((712,Ob.spare (names++[s]).length 1 9)::Obs.forget 712 ((711,Ob.map Str B34 (A19 names 0++[(s,.v (.int .i64 names.length))]))::ob)) 710=some (.box [.mut 711,.p (.list Str 1 M1 names)]):=by
   rw [B6 (by decide),O3,h0'];rfl
  refine A4 (A3 (A5 Z Z) Z (A3 (A5 Z Z) Z (A3 (B2 Z) Z (A3 (A8 Z) Z (A3 (A9 Z h0' Z) Z (A3 (A5 Z Z) Z (A3 (E4 (c:=M1) (ys:=[s]) (F3 Z Z Z Z I6) Z Z Z) Z (C7 (L0 Z h2' Z (.pure _ _ _ _) (by (simp only [K99,L02];omega)) Z) Z (A3 (B2 Z) Z (A3 (A8 Z) Z (E5 (B7 TySz.out Z h0'' Z Z Z Z) (A7 ?_))))))))))))
  refine k1 (k2 ?_)
  refine A4 (A3 (A5 Z Z) Z (A3 (A6 Z Z) Z (A7 ?_)))
  refine k1 (k10 ?_)
  exact G8 (R6 rfl rfl) (by repeat (first | exact C5 | refine tail_cons rfl ?_ | refine D3 _ ?_)) (fun _ _ h=>h) ⟨rfl,rfl⟩
 ·cases ht
theorem I09 (files:List (List Str)) (i m:Nat):(N3 files i).all (TC.free m)=true:=by
 rw [List.all_eq_true]
 intro t ht
 unfold N3 at ht
 obtain ⟨r,_,rfl⟩:=List.mem_map.1 ht
 split<;>rfl
theorem J22 {files:List (List Str)} {i:Nat} (b x:TC) (m:Nat):(((N3 files i).set i b).map (TC.forget m)).set i x=(N3 files i).set i x:=by
 have e1:(N3 files i).map (TC.forget m)=N3 files i:=by
  unfold N3
  rw [L34]
  apply List.map_congr_left
  intro r _
  simp only [Function.comp]
  split<;>rfl
 rw [List.map_set,e1,List.set_set]
theorem I10 {files:List (List Str)} {i:Nat} (b x:TC) (m m':Nat):((((N3 files i).set i b).map (TC.forget m)).map (TC.forget m')).set i x=(N3 files i).set i x:=by
 have e1:∀m,(N3 files i).map (TC.forget m)=N3 files i:=by
  intro m
  unfold N3
  rw [L34]
  apply List.map_congr_left
  intro r _
  simp only [Function.comp]
  split<;>rfl
 rw [List.map_set,e1,List.map_set,e1,List.set_set]
theorem F86 (files:List (List Str)) (hn:files.length≤1048576) (hl:files.flatten.length≤536870911):FnOk Tryz.prog 131 [pStrss files] (fun rs=>rs=[pIntss (files.map (O9 (I8 files))),m6 (I8 files)]):=by
 refine FnOk.intro Tryz.func131 (by decide) Z Z Z Z ?_
 refine k2 ?_
 refine A4 (A3 (A6 Z Z) Z (A3 (A6 Z Z) Z (A7 ?_)))
 refine k1 (k2 ?_)
 refine A4 (C7 (J13 711 Str B34 Z) Z (A3 (G4 Z) Z (C7 (R1 710 Z Z Z) Z (A3 (A6 Z Z) Z (A7 ?_)))))
 refine k1 (k2 ?_)
 refine E8 (K69 712 Str 1 M1 9 (kb:=710) (o:=1) Z Z Z) ?_
 refine A4 (A3 (A5 Z Z) Z (A3 (F1 Z (.pure _ _ _ _)) Z (C7 (m9 20 Unit (fun _ _=>.v (.slice none 0 0)) () Z Z (by omega) (by omega) (fun _=>by first | exact ⟨⟨rfl,rfl⟩,trivial⟩ | exact ⟨N8 _ _ _,trivial⟩) (by first | rfl | (simp [G3,H7,Ob.free,SV.free,S1.free,TC.free]<;>rfl))) Z ?_)));refine A3 (A6 Z Z) Z (A7 ?_)
 refine k1 (k2 (k2 ?_))
 refine E8 (K92 20 Z) ?_
 have hz:((List.replicate ((files.length:Nat):Int).toNat ()).map fun x=>TC.p ((fun (_:Unit) (_:Nat)=>Cell.v (.slice none 0 0)) x 0))=N3 files 0:=by
  rw [L01,←I45];simp
 have hz2:(List.replicate ((files.length:Nat):Int).toNat ()).length=files.length:=by simp
 rw [hz,hz2]
 refine A4 (A3 (A5 Z Z) Z (A3 (F1 Z (.pure _ _ _ _)) Z (A3 (A5 Z Z) Z (A7 ?_))))
 refine k1 (k3 ?_)
 refine E1 (X:=Nat) (fun i=>([(4,.s (.one (.ref 710 0))),(5,.s (.one (.mut 20))),(16,D2 (List Str) 1 strsC files),(17,C0 files.length),(18,C0 i)],[(710,.box [.mut 711,.buf 712 Str 1 M1 (M5 files i 0)]),(711,.map Str B34 (A19 (M5 files i 0) 0)),(712,.spare (M5 files i 0).length 1 9),(20,.tarr files.length 1 (N3 files i))])) (fun i=>i≤files.length) (fun i=>files.length - i) 0 (Nat.zero_le _) ?_ ?_
 ·rw [show M5 files 0 0=[] from rfl]
  exact K60 ⟨le1 rfl,le1 rfl,le1 rfl,le1 rfl,le1 rfl,trivial⟩ ⟨rfl,rfl,rfl,rfl,trivial⟩
 intro i hi
 dsimp only at hi ⊢
 refine k2 ?_
 refine A4 (A3 (E6 Z Z) Z (A7 ?_))
 refine k1 (k2 ?_)
 refine B4 rfl (fun ht=>?_) (fun ht=>?_)
 ·have hlt:i < files.length:=by have:=A0 ht;omega
  obtain ⟨f,hf⟩:∃f,f=files.getD i []:=⟨_,rfl⟩
  have hv:files[i]?=some f:=by rw [hf];simp [hlt]
  have hfl:f.length≤files.flatten.length:=by
   have h1:f∈files:=L13 hv
   have:∀(fs:List (List Str)),f∈fs→f.length≤fs.flatten.length:=by
    intro fs
    induction fs with
    | nil=>intro h;simp at h
    | cons x r ih =>
     intro h
     simp only [L16,K96]
     rcases List.mem_cons.1 h with rfl | h
     ·omega
     ·have:=ih h;omega
   exact this files h1
  have hrl:(N3 files i).length=files.length:=by simp [N3]
  refine k5 (k1 (k2 (k3 (k2 ?_))))
  refine A4 (A3 (A5 Z Z) Z (A3 (B9 Z (.pure _ _ _ _) Z (by omega) hv) Z (A3 (C8 Z Z) Z (A3 (A6 Z Z) Z (A3 (A6 Z Z) Z (A7 ?_))))))
  refine k1 (k2 ?_)
  refine A4 (A3 (A5 Z Z) Z (A3 (F1 Z (.pure _ _ _ _)) Z (A3 (A5 Z Z) Z (A7 ?_))))
  refine k1 (k3 ?_)
  refine E8 (K84 713 Int 1 G6 3 (kb:=20) (o:=i) Z (J63 hlt) (by simp [G3,H7,Ob.free,SV.free,S1.free,TC.free,I09];repeat' (first | rfl | constructor))) ?_
  refine E1 (X:=Nat) (fun j=>([(4,.s (.one (.ref 710 0))),(5,.s (.one (.mut 20))),(6,C0 i),(16,D2 (List Str) 1 strsC files),(17,C0 files.length),(18,C0 i),(23,D2 Str 1 M1 f),(24,C0 f.length),(25,C0 j)],[(20,.tarr files.length 1 ((N3 files i).set i (.buf 713 Int 1 G6 (O9 (I8 files) (f.take j))))),(710,.box [.mut 711,.buf 712 Str 1 M1 (M5 files i j)]),(711,.map Str B34 (A19 (M5 files i j) 0)),(712,.spare (M5 files i j).length 1 9),(713,.spare (O9 (I8 files) (f.take j)).length 1 3)])) (fun j=>j≤f.length) (fun j=>f.length - j) 0 (Nat.zero_le _) ?_ ?_
  ·exact K60 ⟨le1 rfl,le1 rfl,le1 rfl,le1 rfl,le1 rfl,le1 rfl,le1 rfl,le1 rfl,le1 rfl,trivial⟩ ⟨rfl,rfl,rfl,rfl,rfl,trivial⟩
  intro j hj
  dsimp only at hj ⊢
  refine k2 ?_
  refine A4 (A3 (E6 Z Z) Z (A7 ?_))
  refine k1 (k2 ?_)
  refine B4 rfl (fun ht=>?_) (fun ht=>?_)
  ·have hlt2:j < f.length:=by have:=A0 ht;omega
   obtain ⟨s,hs⟩:∃s,s=f[j]:=⟨_,rfl⟩
   have hvs:f[j]?=some s:=by rw [hs];simp [hlt2]
   have hstep:=G80 files i j s (by rw [←hf];exact hvs)
   obtain ⟨names,hnm⟩:∃names,names=M5 files i j:=⟨_,rfl⟩
   have hnl:=F02 files i j
   obtain ⟨rest,hrest⟩:=D93 files i (j+1)
   obtain ⟨ids,hids⟩:∃ids,ids=O9 (I8 files) (f.take j):=⟨_,rfl⟩
   have hil:ids.length=j:=by rw [hids];simp [O9];omega
   have hnext:O9 (I8 files) (f.take (j+1))=ids++[I7 (I8 files) s 0]:=by
    rw [hids,L06 hlt2,←hs];unfold O9;rw [L14];rfl
   rw [hstep] at hrest
   rw [←hnm] at hstep hnl hrest ⊢
   rw [←hids]
   have hTi:((N3 files i).set i (.buf 713 Int 1 G6 ids))[((i:Nat):Int).toNat]?=some (.buf 713 Int 1 G6 ids):=by
    rw [L01,List.getElem?_set_self (by rw [hrl];omega)]
   have hTi2:(((N3 files i).set i (.buf 713 Int 1 G6 ids)).map (TC.forget 712))[((i:Nat):Int).toNat]?=some (.buf 713 Int 1 G6 ids):=by
    rw [L30,hTi];rfl
   refine k5 (k1 (k2 (k3 (k2 ?_))))
   refine A4 (A3 (B9 Z (.pure _ _ _ _) Z (by omega) hvs) Z (A3 (C8 Z Z) Z (A3 (A6 Z Z) Z (A7 ?_))))
   by_cases hmem:s∈names
   ·have hns:K7 names s=names:=by unfold K7;rw [if_pos hmem]
    rw [hns] at hstep hrest
    have hpl:I7 (I8 files) s 0=I7 names s 0:=by rw [hrest];exact B73 s rest names 0 hmem
    refine J8 ?_
    refine K4 ((9,J3 s)::[(4,.s (.one (.ref 710 0))),(5,.s (.one (.mut 20))),(6,C0 i),(16,D2 (List Str) 1 strsC files),(17,C0 files.length),(18,C0 i),(23,D2 Str 1 M1 f),(24,C0 f.length),(25,C0 j)]) [(20,.tarr files.length 1 ((N3 files i).set i (.buf 713 Int 1 G6 ids))),(710,.box [.mut 711,.buf 712 Str 1 M1 names]),(711,.map Str B34 (A19 names 0)),(712,.spare names.length 1 9),(713,.spare ids.length 1 3)] (K60 ⟨le1 rfl,le1 rfl,le1 rfl,le1 rfl,le1 rfl,le1 rfl,le1 rfl,le1 rfl,le1 rfl,le1 rfl,trivial⟩ ⟨rfl,rfl,rfl,rfl,rfl,trivial⟩) ?_
    refine O2 [12,10,8] [[],[8],[10,8],[12,10,8]] [(8,([],[])),(10,([713],[34])),(12,([],[]))] [(0,[]),(1,[]),(2,[]),(3,[]),(4,[]),(5,[]),(6,[]),(7,[]),(8,[]),(9,[8]),(10,[8]),(11,[10,8]),(12,[10,8])] [(0,[8]),(0,[10,8]),(1,[8]),(1,[10,8]),(2,[8]),(3,[8]),(4,[8]),(5,[8])] (by kernel_rfl) (by kernel_rfl) (D6 Z Z (by kernel_rfl) Z Z (A5 Z Z) (D6 Z Z (by kernel_rfl) Z Z (A5 Z Z) (D6 Z Z (by kernel_rfl) Z Z (A5 Z Z) (D6 Z Z (by kernel_rfl) Z Z (A5 Z Z) (D6 Z Z (by kernel_rfl) Z Z (Q7 Z Z Z (by omega) (by omega)) (D6 Z Z (by kernel_rfl) Z Z (x8 Z Z (by first | exact hTi | exact hTi2)) ?_))))));refine D6 Z Z (by kernel_rfl) Z Z (A5 Z Z) (D6 Z Z (by kernel_rfl) Z Z (A5 Z Z) (V6 Z Z (by kernel_rfl) Z Z (r_met (fun gf=>tid_old names s hmem Z Z) Z Z) Z (D6 Z Z (by kernel_rfl) Z Z (E4 (c:=G6) (ys:=[I7 names s 0]) (F3 Z Z Z Z I6) Z Z Z) (V6 Z Z (by kernel_rfl) Z Z (A97 (fun frc hU=>L0 (T5 hU Z) Z (T5 hU Z) (.pure _ _ _ _) (by (simp only [K99,L02];omega)) Z)) Z (D6 Z Z (by kernel_rfl) Z Z (Q7 Z Z Z (by omega) (by omega)) (V6 Z Z (by kernel_rfl) Z Z (C82 (fun frc hU=>B42 TySz.out (T5 hU Z) Z (by (simp;omega)) (T5 hU Z) Z)) Z ?_))))));refine C81 (by kernel_rfl) rfl ?_ ?_
    ·refine K6 Z Z (by kernel_rfl) Z Z (A5 Z Z) (K6 Z Z (by kernel_rfl) Z Z (A5 Z Z) (K6 Z Z (by kernel_rfl) Z Z (A5 Z Z) (K6 Z Z (by kernel_rfl) Z Z (A5 Z Z) (K6 Z Z (by kernel_rfl) Z Z (A5 Z Z) (K6 Z Z (by kernel_rfl) Z Z (A5 Z Z) (K6 Z Z (by kernel_rfl) Z Z (Q7 Z Z Z (by omega) (by omega)) (K6 Z Z (by kernel_rfl) Z Z (x8 Z Z (by first | exact hTi | exact hTi2)) ?_)))))));exact C14
    refine K4 [(4,.s (.one (.ref 710 0))),(5,.s (.one (.mut 20))),(6,C0 i),(16,D2 (List Str) 1 strsC files),(17,C0 files.length),(18,C0 i),(23,D2 Str 1 M1 f),(24,C0 f.length),(25,C0 j)] [(20,.tarr files.length 1 ((N3 files i).set i (.buf 713 Int 1 G6 (ids++[I7 names s 0])))),(710,.box [.mut 711,.buf 712 Str 1 M1 (names)]),(711,.map Str B34 (A19 (names) 0)),(712,.spare (names).length 1 9),(713,.spare (ids++[I7 names s 0]).length 1 3)] (by rw [L01 i,J22];exact K60 ⟨le1 rfl,le1 rfl,le1 rfl,le1 rfl,le1 rfl,le1 rfl,le1 rfl,le1 rfl,le1 rfl,trivial⟩ ⟨rfl,rfl,rfl,rfl,rfl,trivial⟩) ?_
    refine A4 (A3 (C6 Z Z (by omega)) Z (A3 (A5 Z Z) Z (A7 ?_)))
    refine k1 ?_
    exact ⟨j+1,hlt2,by omega,by rw [hstep,hnext,hpl];exact K60 ⟨le1 rfl,le1 rfl,le1 rfl,le1 rfl,le1 rfl,le1 rfl,le1 rfl,le1 rfl,le1 rfl,trivial⟩ ⟨rfl,rfl,rfl,rfl,rfl,trivial⟩⟩
   ·refine J8 ?_
    have hns:K7 names s=names++[s]:=by unfold K7;rw [if_neg hmem]
    rw [hns] at hstep hrest
    have hkv:A19 (names++[s]) 0=A19 names 0++[(s,.v (.int .i64 (names.length:Int)))]:=by rw [G09];simp only [Int.zero_add]
    have hpl:I7 (I8 files) s 0=names.length:=by
     rw [hrest,B73 s rest (names++[s]) 0 (by simp),D92 s names 0 hmem];omega
    refine K4 ((9,J3 s)::[(4,.s (.one (.ref 710 0))),(5,.s (.one (.mut 20))),(6,C0 i),(16,D2 (List Str) 1 strsC files),(17,C0 files.length),(18,C0 i),(23,D2 Str 1 M1 f),(24,C0 f.length),(25,C0 j)]) [(20,.tarr files.length 1 ((N3 files i).set i (.buf 713 Int 1 G6 (ids)))),(710,.box [.mut 711,.buf 712 Str 1 M1 (names)]),(711,.map Str B34 (A19 (names) 0)),(712,.spare (names).length 1 9),(713,.spare (ids).length 1 3)] (K60 ⟨le1 rfl,le1 rfl,le1 rfl,le1 rfl,le1 rfl,le1 rfl,le1 rfl,le1 rfl,le1 rfl,le1 rfl,trivial⟩ ⟨rfl,rfl,rfl,rfl,rfl,trivial⟩) ?_
    refine O2 [12,10,8] [[],[8],[10,8],[12,10,8]] [(8,([712],[])),(10,([713],[34])),(12,([],[]))] [(0,[]),(1,[]),(2,[]),(3,[]),(4,[]),(5,[]),(6,[]),(7,[]),(8,[]),(9,[8]),(10,[8]),(11,[10,8]),(12,[10,8])] [(0,[8]),(0,[10,8]),(1,[8]),(1,[10,8]),(2,[8]),(3,[8]),(4,[8]),(5,[8])] (by kernel_rfl) (by kernel_rfl) (D6 Z Z (by kernel_rfl) Z Z (A5 Z Z) (D6 Z Z (by kernel_rfl) Z Z (A5 Z Z) (D6 Z Z (by kernel_rfl) Z Z (A5 Z Z) (D6 Z Z (by kernel_rfl) Z Z (A5 Z Z) (D6 Z Z (by kernel_rfl) Z Z (Q7 Z Z Z (by omega) (by omega)) (D6 Z Z (by kernel_rfl) Z Z (x8 Z Z (by first | exact hTi | exact hTi2)) ?_))))));refine D6 Z Z (by kernel_rfl) Z Z (A5 Z Z) (D6 Z Z (by kernel_rfl) Z Z (A5 Z Z) (V6 Z Z (by kernel_rfl) Z Z (r_met (fun gf=>tid_new names s hmem (by omega) Z Z Z) Z Z) Z (D6 Z Z (by kernel_rfl) Z Z (E4 (c:=G6) (ys:=[(names.length:Int)]) (F3 Z Z Z Z I6) Z Z Z) (V6 Z Z (by kernel_rfl) Z Z (A97 (fun frc hU=>L0 (T5 hU Z) Z (T5 hU Z) (.pure _ _ _ _) (by (simp only [K99,L02];omega)) Z)) Z (D6 Z Z (by kernel_rfl) Z Z (Q7 Z Z Z (by omega) (by omega)) (V6 Z Z (by kernel_rfl) Z Z (C82 (fun frc hU=>B42 TySz.out (T5 hU Z) Z (by (simp;omega)) (T5 hU Z) Z)) Z ?_))))));refine C81 (by kernel_rfl) rfl ?_ ?_
    ·refine K6 Z Z (by kernel_rfl) Z Z (A5 Z Z) (K6 Z Z (by kernel_rfl) Z Z (A5 Z Z) (K6 Z Z (by kernel_rfl) Z Z (A5 Z Z) (K6 Z Z (by kernel_rfl) Z Z (A5 Z Z) (K6 Z Z (by kernel_rfl) Z Z (A5 Z Z) (K6 Z Z (by kernel_rfl) Z Z (A5 Z Z) (K6 Z Z (by kernel_rfl) Z Z (Q7 Z Z Z (by omega) (by omega)) (K6 Z Z (by kernel_rfl) Z Z (x8 Z Z (by first | exact hTi | exact hTi2)) ?_)))))));exact C14
    refine K4 [(4,.s (.one (.ref 710 0))),(5,.s (.one (.mut 20))),(6,C0 i),(16,D2 (List Str) 1 strsC files),(17,C0 files.length),(18,C0 i),(23,D2 Str 1 M1 f),(24,C0 f.length),(25,C0 j)] [(20,.tarr files.length 1 ((N3 files i).set i (.buf 713 Int 1 G6 (ids++[(names.length:Int)])))),(710,.box [.mut 711,.buf 712 Str 1 M1 (names++[s])]),(711,.map Str B34 (A19 (names++[s]) 0)),(712,.spare (names++[s]).length 1 9),(713,.spare (ids++[(names.length:Int)]).length 1 3)] (by rw [L01 i,I10,hkv];exact K60 ⟨le1 rfl,le1 rfl,le1 rfl,le1 rfl,le1 rfl,le1 rfl,le1 rfl,le1 rfl,le1 rfl,trivial⟩ ⟨rfl,rfl,rfl,rfl,rfl,trivial⟩) ?_
    refine A4 (A3 (C6 Z Z (by omega)) Z (A3 (A5 Z Z) Z (A7 ?_)))
    refine k1 ?_
    exact ⟨j+1,hlt2,by omega,by rw [hstep,hnext,hpl];exact K60 ⟨le1 rfl,le1 rfl,le1 rfl,le1 rfl,le1 rfl,le1 rfl,le1 rfl,le1 rfl,le1 rfl,trivial⟩ ⟨rfl,rfl,rfl,rfl,rfl,trivial⟩⟩
  ·have hj2:j=f.length:=by have:=A1 ht;omega
   subst hj2
   rw [L27]
   refine k6 (k7 (k7 (k8 Z (k4 (k1 ?_)))))
   refine E8 (Sees.forget 713) ?_
   have hfr:((N3 files i).set i (.buf 713 Int 1 G6 (O9 (I8 files) f))).map (TC.forget 713)=N3 files (i+1):=by rw [hf];exact G81 files i 713 hlt
   have hnr:M5 files (i+1) 0=M5 files i f.length:=by rw [hf];exact H63 files i
   refine K4 [(4,.s (.one (.ref 710 0))),(5,.s (.one (.mut 20))),(16,D2 (List Str) 1 strsC files),(17,C0 files.length),(18,C0 i)] [(710,.box [.mut 711,.buf 712 Str 1 M1 (M5 files (i+1) 0)]),(711,.map Str B34 (A19 (M5 files (i+1) 0) 0)),(712,.spare (M5 files (i+1) 0).length 1 9),(20,.tarr files.length 1 (N3 files (i+1)))] (by rw [hnr,←hfr];exact K60 ⟨le1 rfl,le1 rfl,le1 rfl,le1 rfl,le1 rfl,trivial⟩ ⟨rfl,rfl,rfl,rfl,trivial⟩) ?_
   refine A4 (A3 (C6 Z Z (by omega)) Z (A3 (A5 Z Z) Z (A7 ?_)))
   refine k1 ?_
   exact ⟨i+1,hlt,by omega,K60 ⟨le1 rfl,le1 rfl,le1 rfl,le1 rfl,le1 rfl,trivial⟩ ⟨rfl,rfl,rfl,rfl,trivial⟩⟩
 ·have hi2:i=files.length:=by have:=A1 ht;omega
  rw [hi2,H64]
  refine E8 (K93 20 (c:=intsC) (files.map (O9 (I8 files))) Z (by simp) (I46 files)) ?_
  refine E8 (Sees.freeze (k:=20) Z) ?_
  refine E8 (Sees.forget 712) ?_
  refine k6 (k2 ?_)
  refine D4 (by kernel_rfl) (by kernel_rfl) (B1 (A5 Z Z) Z Z (B1 (A5 Z Z) Z Z (B1 (B2 Z) Z Z (B1 (A8 Z) Z Z (B1 (A9 Z Z Z) Z Z (B1 (A6 Z Z) Z Z (B1 (A6 Z Z) Z Z (L4 ?_))))))))
  refine k1 (k10 ?_)
  exact B8 (j9 rfl rfl rfl rfl rfl) rfl
theorem G50 (files:List (List Str)) (hn:files.length≤1048576) (hl:files.flatten.length≤536870911):FnOk Tryz.prog 68 [pStrss files] (fun rs=>rs=[pIntss (files.map (O9 (I8 files)))]):=by
 refine FnOk.intro Tryz.func68 (by decide) Z Z Z Z ?_
 refine k2 ?_
 refine A4 (A3 (A6 Z Z) Z (A7 ?_))
 refine k1 (k2 ?_)
 refine A4 (A3 (A5 Z Z) Z (C1 (F86 files hn hl) Z Z Z ?_));rintro _ rfl;refine A3 (A5 Z Z) Z (A3 (B3 Z Z) Z (A3 (B3 Z Z) Z (A3 (A6 Z Z) Z (A3 (A6 Z Z) Z (A7 ?_)))))
 refine k1 (k2 ?_)
 refine A4 (A3 (A5 Z Z) Z (A3 (A6 Z Z) Z (A7 ?_)))
 refine k1 (k10 ?_)
 exact B8 (I2 rfl rfl rfl) rfl
theorem B29:∀(ls:List (List Int)) (acc:List Merged) (p B:Nat),(∀x∈ls,x.length≤B)→acc.length+ls.length*B≤4096→(H8 acc p ls).2=0
 | [],acc,p,B,_,_=>rfl
 | x::r,acc,p,B,h,hb=>by
  have hx:=h x (by simp)
  rw [K99,L20,Nat.one_mul] at hb
  have hj:=A52 acc x p
  unfold H8
  rw [if_neg (by omega)]
  exact B29 r _ _ B (fun y hy=>h y (by simp [hy])) (by omega)
theorem F87 (p:Nat) (h:p≤32):IntKind.u32.wrap (1*2 ^ (min (p:Int).toNat IntKind.u32.bits))=J4 p:=by
 unfold J4;rw [I39 (n:=(p:Int)) (by omega)]
set_option maxHeartbeats 1000000
theorem G51 (ls:List (List Int)) (B:Nat) (hpos:0 < ls.length) (hn:ls.length≤32) (hB:∀x∈ls,x.length≤B) (hb:ls.length*B≤4096):FnOk Tryz.prog 233 [pIntss ls] (fun rs=>rs=[pMerged (H2 ls).1,F2 0]):=by
 obtain ⟨W,hW⟩:∃W,W=(H2 ls).1:=⟨_,rfl⟩
 have hW2:W=(H8 [] 0 ls).1:=by rw [hW];unfold H2;rw [if_neg (by omega)]
 rw [←hW]
 have h0:∀x,ls[(0:Int).toNat]?=some x→x.length≤4096:=fun x hx=>by
  have h1:=hB x (L13 hx)
  have h2:0 < ls.length:=List.length_pos_of_mem (L13 hx)
  have h3:1*B≤ls.length*B:=L11 _ h2
  omega
 have hx0:0 < ls.length→∃x,ls[(0:Int).toNat]?=some x∧x.length≤4096:=fun h=>⟨ls[0],K97 h,h0 _ (K97 h)⟩
 refine FnOk.intro Tryz.func233 (by decide) Z Z Z Z ?_
 refine k2 ?_
 refine A4 (A3 (A6 Z Z) Z (A3 (A6 Z Z) Z (A7 ?_)))
 refine k1 (k2 (k2 ?_))
 obtain ⟨x0,hv0,hxl⟩:=hx0 hpos
 refine A4 (A3 (A5 Z Z) Z (A3 (F1 Z (.pure _ _ _ _)) Z (A3 (R5 Z Z) Z (A3 (A5 Z Z) Z (B0 Z Z Z Z (fun hg=>by rw [hg];exact A5 Z Z) ?_)))));refine B0 Z Z Z Z (fun hg=>by rw [hg];exact F1 Z (.pure _ _ _ _)) ?_;refine B0 Z Z Z Z (fun hg=>by rw [hg];exact R5 Z Z) ?_;refine B0 Z Z Z Z (fun hg=>by rw [hg];exact A5 Z Z) ?_;refine O4 Z Z Z (.gd (.val _)) Z (fun hg=>by obtain ⟨hg1,hg2⟩:=Y0 hg;(try rw [hg1]);(try rw [hg2]);exact A5 Z Z) ?_;refine O4 Z Z Z (.gd (.val _)) Z (fun hg=>by have hq:=hg;(try simp at hq);obtain ⟨hg1,hg2⟩:=Y0 hg;(try rw [hg1]);(try rw [hg2]);exact B9 Z (.pure _ _ _ _) Z (by omega) hv0) ?_;refine O4 Z Z Z (.gd (.val _)) Z (fun hg=>by obtain ⟨hg1,hg2⟩:=Y0 hg;(try rw [hg1]);(try rw [hg2]);exact C8 Z Z) ?_;refine O4 Z Z Z (.gd (.val _)) Z (fun hg=>by obtain ⟨hg1,hg2⟩:=Y0 hg;(try rw [hg1]);(try rw [hg2]);exact F1 Z (.pure _ _ _ _)) ?_;refine O4 Z Z Z (.gd (.val _)) Z (fun hg=>by obtain ⟨hg1,hg2⟩:=Y0 hg;(try rw [hg1]);(try rw [hg2]);exact R5 Z Z) ?_;refine B0 Z Z Z Z (fun hg=>by rw [hg];exact B5 Z (fun h=>by first | rfl | (rw [h];rfl)) (fun h=>by first | rfl | (rw [h];rfl))) ?_;refine A3 (B5 Z (fun h=>by first | rfl | (rw [h];rfl)) (fun h=>by first | rfl | (rw [h];rfl))) Z ?_;refine A7 ?_
 refine k1 ?_
 refine B4 rfl (fun ht=>?_) (fun ht=>?_)
 ·exfalso
  have q1:¬((ls.length:Int) > 32):=by omega
  have q2:¬((x0.length:Int) > 4096):=by omega
  simp [q1,q2] at ht
 refine K4 [(0,D2 (List Int) 1 intsC ls)] [] (K60 ⟨le1 rfl,trivial⟩ trivial) ?_
 refine k5 (k1 (k2 ?_))
 refine A4 (A3 (S8 _ 2 mergedC) Z (A7 ?_))
 refine k1 (k2 (k2 ?_))
 refine A4 (A3 (A5 Z Z) Z (A3 (F1 Z (.pure _ _ _ _)) Z (A3 (A5 Z Z) Z (A7 ?_))))
 refine k1 (k3 ?_)
 refine E1 (X:=Nat × List Merged) (fun x=>([(4,D2 Merged 2 mergedC x.2),(23,D2 (List Int) 1 intsC ls),(24,C0 ls.length),(25,C0 x.1)],[])) (fun x=>x.1≤ls.length∧x.2.length≤x.1*B∧W=(H8 x.2 x.1 (ls.drop x.1)).1) (fun x=>ls.length - x.1) (0,[]) ⟨Nat.zero_le _,(by simp),hW2⟩ (K60 ⟨le1 rfl,le1 rfl,le1 rfl,le1 rfl,trivial⟩ trivial) ?_
 rintro ⟨p,acc⟩ ⟨hp,hal,hw⟩
 dsimp only at hp hal hw ⊢
 have hpB:p*B≤ls.length*B:=L11 _ hp
 refine k2 ?_
 refine A4 (A3 (E6 Z Z) Z (A7 ?_))
 refine k1 (k2 ?_)
 refine B4 rfl (fun ht=>?_) (fun ht=>?_)
 rotate_left
 ·have hpl:p=ls.length:=by have:=A1 ht;omega
  rw [hpl,L07 (Nat.le_refl _)] at hw
  have hw:W=acc:=hw
  refine k6 (k2 ?_)
  refine A4 (A3 (A5 Z Z) Z (A3 (A6 Z Z) Z (A3 (A6 Z Z) Z (A7 ?_))))
  refine k1 (k10 ?_)
  exact B8 (j9 rfl rfl rfl rfl rfl) (by rw [hw])
 have hlt:p < ls.length:=by have:=A0 ht;omega
 have hv:ls[p]?=some ls[p]:=by simp [hlt]
 have hx:=hB _ (L15 hlt)
 rw [L03 hlt,H8] at hw
 obtain ⟨x,hxd⟩:∃x,x=ls[p]:=⟨_,rfl⟩
 rw [←hxd] at hv hx hw
 have h1B:1*B≤ls.length*B:=L11 _ hpos
 rw [if_neg (by omega)] at hw
 have hjs:=A52 acc x p
 have hM:=J21 acc x (J4 p) (by omega) (by omega)
 have hres:D36 acc x (J4 p)=Y5 acc x p:=rfl
 rw [hres] at hM
 refine k5 (k1 (k2 (k3 (k2 ?_))))
 refine A4 (A3 (A5 Z Z) Z (A3 (B9 Z (.pure _ _ _ _) Z (by omega) hv) Z (A3 (C8 Z Z) Z (A3 (A6 Z Z) Z (A3 (A6 Z Z) Z (A7 ?_))))))
 refine k1 (k2 ?_)
 refine A4 (A3 (A6 Z Z) Z (A7 ?_))
 refine k1 (k2 ?_)
 refine A4 (A3 (A5 Z Z) Z (A3 (A5 Z Z) Z (A3 (A5 Z Z) Z (A3 (I71 Z Z (by (show (0:Int)≤(p:Int);omega))) Z ?_))));rw [F87 p (by omega)];refine C1 hM Z Z Z ?_;rintro _ rfl;refine A3 (A5 Z Z) Z (A3 (B3 Z Z) Z (A3 (B3 Z Z) Z (A3 (A6 Z Z) Z (A3 (A6 Z Z) Z (A7 ?_)))))
 refine k1 (k2 ?_)
 refine A4 (A3 (A5 Z Z) Z (A3 (O6 Z Z) Z (A7 ?_)))
 refine k1 ?_
 refine B4 rfl (fun ht=>?_) (fun ht=>?_)
 ·cases ht
 refine k5 (k4 (k1 ?_))
 refine A4 (A3 (C6 Z Z (by omega)) Z (A3 (A5 Z Z) Z (A7 ?_)))
 refine k1 ?_
 exact ⟨(p+1,Y5 acc x p),⟨by dsimp only;omega,by dsimp only;rw [L20];omega,hw⟩,by dsimp only;omega,K60 ⟨le1 rfl,le1 rfl,le1 rfl,le1 rfl,trivial⟩ trivial⟩
theorem E61 (files:List (List Str)) (hn:files.length≤1048576) (hl:files.flatten.length≤536870911):FnOk Tryz.prog 174 [pStrss files] (fun rs=>rs=[m6 (I8 files)]):=by
 refine FnOk.intro Tryz.func174 (by decide) Z Z Z Z ?_
 refine k2 ?_
 refine A4 (A3 (A6 Z Z) Z (A7 ?_))
 refine k1 (k2 ?_)
 refine A4 (A3 (A5 Z Z) Z (C1 (F86 files hn hl) Z Z Z ?_));rintro _ rfl;refine A3 (A5 Z Z) Z (A3 (B3 Z Z) Z (A3 (B3 Z Z) Z (A3 (A6 Z Z) Z (A3 (A6 Z Z) Z (A7 ?_)))))
 refine k1 (k2 ?_)
 refine A4 (A3 (A5 Z Z) Z (A3 (A6 Z Z) Z (A7 ?_)))
 refine k1 (k10 ?_)
 exact B8 (I2 rfl rfl rfl) rfl
abbrev R8 (m:Nat):List TC:=O1 intsC m 0 (fun _=>([]:List (List Int)))
abbrev c6 (names:List Str) (lines:List Int) (n:Nat):Ob:=.box [.p (.list Str 1 M1 names),.p (.list Int 1 G6 lines),.mut 731,.mut 732,.p (.v (.int .i64 n)),.p (.v (.slice none 0 0))]
abbrev y7:Ob:=.box [.p (.v (.int .i64 0)),.p (.v (.slice none 0 0))]
abbrev B55 (names:List Str) (lines ms:List Int) (g:Nat→List (List Int)) (n m:Nat):Obs :=
 (4,y7)::(730,c6 names lines n)::(731,.arr Int 1 C68 ms)::(732,.growT 114 m 1 (R8 m))::L7 intsC g (List.range m)
theorem B56 {m k:Nat} (hk:k < 1000):(R8 m).all (TC.free k)=true:=by
 rw [List.all_eq_true]
 intro t ht
 obtain ⟨r,_,rfl⟩:=List.mem_map.1 ht
 rw [if_neg (by omega)]
 simp [TC.free,I0 (show r+1000≠k by omega)]
theorem I11 {names:List Str} {lines ms:List Int} {g:Nat→List (List Int)} {n m:Nat}:H7 708 (B55 names lines ms g n m)=true:=by
 have h1:=C36 (k:=708) (by omega) (List.range m) (fun r _=>by omega) (c:=intsC) (g:=g)
 have h2:=B56 (m:=m) (k:=708) (by omega)
 simp only [H7,Ob.free,h1,h2]
 rfl
theorem I82 {i:Nat} {x y:Ob} {rest:Obs}:∀k o,C2 ((i,x)::rest) k=some o→C2 ((i,x)::(i,y)::rest) k=some o:=by
 intro k o h
 by_cases hk:i=k
 ·subst hk;rw [C9] at h ⊢;exact h
 ·rw [B6 hk] at h;rw [B6 hk,B6 hk];exact h
abbrev chBox (a b c d:Int):Ob:=.box [.p (.v (.int .i64 a)),.p (.v (.int .i64 b)),.p (.v (.int .i64 c)),.p (.v (.int .i64 d))]
set_option maxHeartbeats 1000000
theorem K01 {gf:Fr} (names:List Str) (lines file ms:List Int) (g:Nat→List (List Int)) (n p:Nat) (hl:lines.length≤4096) (hf:file.length≤4096) (hms:ms.length=lines.length) (hp:p < 32) (hpn:p < n) (hg:∀k,(g k).length=n) :
  AL.Met Tryz.prog 175 [.one (.ref 730 0),.one (.p (.v (.int .i64 p))),.one (.p (.list Int 1 G6 file))] gf (B55 names lines ms g n (lines.length+1)) [708]
   (fun rs ob'=>rs=[.one (.p (.v (.int .i64 0)))]∧ob'=B55 names lines ((N6 file lines).foldl (M8 p) ms) ((N6 file lines).foldl (P1 p file) g) n (lines.length+1)):=by
 have hS:=E60 file lines hf hl
 have hwb:=G68 file lines
 have hml:=C23 (H1 0 0 file lines) 0 0 file.length lines.length
 have hwl:=A68 0 0 file lines
 obtain ⟨cs,hcs⟩:∃cs,cs=N6 file lines:=⟨_,rfl⟩
 have hcsl:cs.length≤4097:=by rw [hcs];unfold N6 B04;omega
 rw [←hcs] at hS hwb ⊢
 refine AL.Met.introH Tryz.func175 (by decide) rfl rfl rfl (fun hH=>?_)
 refine k2 ?_
 refine A4 (A3 (A6 Z Z) Z (A7 ?_))
 refine k1 (k2 ?_)
 refine A4 (A3 (A5 Z Z) Z (A3 (A5 Z Z) Z (A3 (B2 Z) Z (A3 (A8 Z) Z (A3 (A9 Z Z Z) Z (C1 (hS) Z Z Z ?_))))));rintro _ rfl;refine A3 (A5 Z Z) Z (A3 (B3 Z Z) Z (A3 (B3 Z Z) Z (A3 (A6 Z Z) Z (A3 (A6 Z Z) Z (A7 ?_)))))
 refine k1 (k2 (k2 ?_))
 refine A4 (A3 (A5 Z Z) Z (A3 (O6 Z Z) Z (A7 ?_)))
 refine k1 ?_
 refine B4 rfl (fun ht=>?_) (fun ht=>?_)
 ·cases ht
 refine k5 (k1 (k2 (k2 ?_)))
 refine A4 (A3 (A5 Z Z) Z (A3 (F1 Z (.pure _ _ _ _)) Z (A3 (A5 Z Z) Z (A7 ?_))))
 refine k1 (k3 ?_)
 refine E8 (K77 [708] (l:=[(0,.s (.one (.ref 730 0))),(1,C0 p),(2,D2 Int 1 G6 file),(24,D2 Change 4 changeC cs),(25,C0 cs.length),(26,C0 0)]) (ob':=B55 names lines ms g n (lines.length+1)) ⟨le1 rfl,le1 rfl,le1 rfl,le1 rfl,le1 rfl,le1 rfl,trivial⟩ hH (by repeat (first | exact C5 | refine tail_cons rfl ?_)) (fun _ _ h=>h)) ?_
 refine E1 (X:=Nat) (fun i=>([(0,.s (.one (.ref 730 0))),(1,C0 p),(2,D2 Int 1 G6 file),(24,D2 Change 4 changeC cs),(25,C0 cs.length),(26,C0 i)]++E0 [708] gf,B55 names lines ((cs.take i).foldl (M8 p) ms) ((cs.take i).foldl (P1 p file) g) n (lines.length+1))) (fun i=>i≤cs.length) (fun i=>cs.length - i) 0 (Nat.zero_le _) (K65 fun _ _ h=>h) ?_
 intro i hi
 dsimp only at hi ⊢
 refine k2 ?_
 refine A4 (A3 (E6 Z Z) Z (A7 ?_))
 refine k1 (k2 ?_)
 refine B4 rfl (fun ht=>?_) (fun ht=>?_)
 rotate_left
 ·have hil:i=cs.length:=by have:=A1 ht;omega
  rw [hil,L27]
  refine k6 (k2 ?_)
  refine A4 (A3 (A6 Z Z) Z (A7 ?_))
  refine k1 (k10 ?_)
  exact G8 (R6 rfl rfl) (by repeat (first | exact C5 | refine tail_cons rfl ?_)) (fun _ _ h=>h) ⟨rfl,rfl⟩
 have hlt:i < cs.length:=by have:=A0 ht;omega
 have hv:cs[i]?=some cs[i]:=by simp [hlt]
 have hcb:=hwb _ (L15 hlt)
 have hst1:(cs.take (i+1)).foldl (M8 p) ms=M8 p ((cs.take i).foldl (M8 p) ms) cs[i]:=by rw [L06 hlt,L40];rfl
 have hst2:(cs.take (i+1)).foldl (P1 p file) g=P1 p file ((cs.take i).foldl (P1 p file) g) cs[i]:=by rw [L06 hlt,L40];rfl
 have hmi:((cs.take i).foldl (M8 p) ms).length=lines.length:=by
  have key:∀(q:List Change) (ms:List Int),(q.foldl (M8 p) ms).length=ms.length:=by
   intro q
   induction q with
   | nil=>intro ms;rfl
   | cons c r ih=>intro ms;rw [L31,ih,x9]
  rw [key,hms]
 have hgi:∀k,((cs.take i).foldl (P1 p file) g k).length=n:=by
  have key:∀(q:List Change) (g:Nat→List (List Int)),(∀k,(g k).length=n)→∀k,(q.foldl (P1 p file) g k).length=n:=by
   intro q
   induction q with
   | nil=>intro g h;exact h
   | cons c r ih =>
    intro g h
    refine ih _ (fun k=>?_)
    unfold P1
    split
    ·rw [L49];exact h k
    ·exact h k
  exact key _ _ hg
 obtain ⟨m1,hm1⟩:∃m1,m1=(cs.take i).foldl (M8 p) ms:=⟨_,rfl⟩
 obtain ⟨g1,hg1⟩:∃g1,g1=(cs.take i).foldl (P1 p file) g:=⟨_,rfl⟩
 obtain ⟨c,hc⟩:∃c,c=cs[i]:=⟨_,rfl⟩
 rw [←hm1] at hst1 hmi ⊢
 rw [←hg1] at hst2 hgi ⊢
 rw [←hc] at hv hcb hst1 hst2
 obtain ⟨co,col,cn,cnl⟩:=c
 dsimp only at hcb
 obtain ⟨A,rfl⟩:∃A:Nat,co=A:=⟨co.toNat,by omega⟩
 obtain ⟨B,rfl⟩:∃B:Nat,col=B:=⟨col.toNat,by omega⟩
 obtain ⟨C,rfl⟩:∃C:Nat,cn=C:=⟨cn.toNat,by omega⟩
 obtain ⟨D,rfl⟩:∃D:Nat,cnl=D:=⟨cnl.toNat,by omega⟩
 have hfree:∀ms',H7 708 (B55 names lines ms' g1 n (lines.length+1))=true:=fun ms'=>I11
 obtain ⟨hf1,hf2,_⟩:=P8 (hfree m1)
 refine k5 (k1 (k2 (k3 (k2 ?_))))
 refine A4 (A3 (B9 Z (.pure _ _ _ _) Z (by omega) hv) Z (A3 (F4 Z Z) Z (C7 (G34 708 hf2 (by decide)) Z (E5 (B7 TySz.out Z Z Z Z Z Z) (A7 ?_)))))
 rw [hf1]
 refine K4 ([(0,.s (.one (.ref 730 0))),(1,C0 p),(2,D2 Int 1 G6 file),(10,.s (.one (.ref 708 0))),(24,D2 Change 4 changeC cs),(25,C0 cs.length),(26,C0 i)]++E0 [708] gf) ((708,chBox A B C D)::B55 names lines m1 g1 n (lines.length+1)) (K61 ⟨le1 rfl,le1 rfl,le1 rfl,le1 rfl,le1 rfl,le1 rfl,le1 rfl,trivial⟩ (J5 hH) (by repeat (first | exact C5 | refine tail_cons rfl ?_ | refine A16 _ rfl ?_)) I82) ?_
 refine k2 (k2 ?_)
 refine A4 (A3 (A8 Z) Z (A3 (A9 Z Z Z) Z (A3 (A6 Z Z) Z (A7 ?_))))
 refine k1 (k3 ?_)
 refine E1 (X:=Nat) (fun t=>([(0,.s (.one (.ref 730 0))),(1,C0 p),(2,D2 Int 1 G6 file),(10,.s (.one (.ref 708 0))),(11,C0 ((C+t:Nat):Int)),(24,D2 Change 4 changeC cs),(25,C0 cs.length),(26,C0 i)]++E0 [708] gf,(708,chBox A B C D)::B55 names lines (M8 p m1 ⟨A,B,C,t⟩) g1 n (lines.length+1))) (fun t=>t≤D) (fun t=>D - t) 0 (Nat.zero_le _) ?_ ?_
 ·dsimp only
  rw [show ((0:Nat):Int)=0 from rfl,H61]
  exact K61 ⟨le1 rfl,le1 rfl,le1 rfl,le1 rfl,le1 rfl,le1 rfl,le1 rfl,le1 rfl,trivial⟩ (J5 hH) (by repeat (first | exact C5 | refine tail_cons rfl ?_)) (fun _ _ h=>h)
 intro t ht1
 dsimp only at ht1 ⊢
 have hsl:=x9 p m1 ⟨A,B,C,t⟩
 refine k2 (k2 ?_)
 refine A4 (A3 (A5 Z Z) Z (A3 (A8 Z) Z (A3 (A9 Z Z Z) Z (A3 (A8 Z) Z (A3 (A9 Z Z Z) Z (A3 (C6 Z Z (by omega)) Z (A3 (E6 Z Z) Z (A7 ?_))))))))
 refine k1 ?_
 refine B4 rfl (fun ht=>?_) (fun ht=>?_)
 ·have hltD:t < D:=by have:=A0 ht;omega
  obtain ⟨q1,q2⟩:=H62 p m1 A B C t (by omega)
  have hv2:(M8 p m1 ⟨A,B,C,t⟩)[((C+t:Nat):Int).toNat]?=some (m1.getD (C+t) 0):=by rw [L01];exact q1
  refine k5 (k1 (k2 (k3 ?_)))
  refine D4 (by kernel_rfl) (by kernel_rfl) (B1 (A5 Z Z) Z Z (B1 (B2 Z) Z Z (B1 (A8 Z) Z Z (B1 (A9 Z Z Z) Z Z (B1 (A5 Z Z) Z Z (B1 (F5 Z Z Z (by omega) (by (rw [hsl];omega))) Z Z ?_))))));refine B1 (U3 Z Z hv2 Z) Z Z (B1 (A5 Z Z) Z Z (B1 (I71 Z Z (by (show (0:Int)≤(p:Int);omega))) Z Z ?_));refine B1 (d6 Z Z Z (fun _=>rfl)) Z Z (B1 (F5 Z Z Z (by omega) (by (rw [hsl];omega))) Z Z ?_);refine F67 (H4 TySz.out Z Z (by (rw [hsl];omega)) Z Z) Z ?_;refine L4 ?_
  rw [F87 p (by omega)]
  refine k4 (k1 ?_)
  refine A4 (A3 (A5 Z Z) Z (A3 (C6 Z Z (by omega)) Z (A3 (A6 Z Z) Z (A7 ?_))))
  refine k1 ?_
  refine ⟨t+1,by omega,by omega,?_⟩
  rw [←q2]
  refine K61 ⟨le1 rfl,le1 rfl,le1 rfl,le1 rfl,leE rfl (by rw [show ((C+(t+1):Nat):Int)=((C+t:Nat):Int)+1 by omega]),le1 rfl,le1 rfl,le1 rfl,trivial⟩ (J5 hH) (by repeat (first | exact C5 | refine tail_drop rfl ?_ | refine tail_cons rfl ?_ | refine A16 _ rfl ?_)) ?_
  exact B90 (L:=[(708,_),(4,_),(730,_),(731,_),(732,_)]) ⟨rfl,rfl,rfl,rfl,rfl,trivial⟩ (by repeat (first | exact B49 | refine B50 rfl ?_))
 have htD:t=D:=by have:=A1 ht;omega
 subst htD
 rw [←hst1]
 have hC:C < lines.length+1:=by omega
 have hrow:(R8 (lines.length+1))[C]?=some (.mut (C+1000)):=H03 hC (Nat.zero_le _)
 have hgl:(R8 (lines.length+1)).length=lines.length+1:=E33
 obtain ⟨m2,hm2⟩:∃m2,m2=(cs.take (i+1)).foldl (M8 p) ms:=⟨_,rfl⟩
 rw [←hm2]
 have hob:C2 ((708,chBox A B C t)::B55 names lines m2 g1 n (lines.length+1)) (C+1000)=some (.arr (List Int) 1 intsC (g1 C)):=by
  rw [B6 (by omega),B6 (by omega),B6 (by omega),B6 (by omega),B6 (by omega)]
  exact B87 (List.mem_range.2 hC)
 have hgC:=hgi C
 have eAB:((A:Int)+B).toNat - (A:Int).toNat=B:=by omega
 have hnew:(g1 C).set p ((file.drop A).take B)=(cs.take (i+1)).foldl (P1 p file) g C:=by
  rw [hst2,P1,if_pos (by simp)]
  dsimp only
  rw [eAB,L01]
 have hsame:∀q,q≠C→(cs.take (i+1)).foldl (P1 p file) g q=g1 q:=by
  intro q hq
  rw [hst2,P1,if_neg (by simpa using hq)]
 refine k6 (k7 (k7 (k8 Z (k1 ?_))))
 refine D4 (by kernel_rfl) (by kernel_rfl) (B1 (A5 Z Z) Z Z (B1 (B2 Z) Z Z (B1 (A8 Z) Z Z (B1 (A9 Z Z Z) Z Z (B1 (A8 Z) Z Z (B1 (A9 Z Z Z) Z Z (B1 (E56 Z Z Z (by omega) (by (first | omega | (rw [L01];omega)))) Z Z (B1 (J16 Z Z (by simpa using hrow)) Z Z (B1 (A5 Z Z) Z Z (B1 (A5 Z Z) Z Z (B1 (A8 Z) Z Z (B1 (A9 Z Z Z) Z Z (B1 (A8 Z) Z Z (B1 (A9 Z Z Z) Z Z (B1 (A8 Z) Z Z (B1 (A9 Z Z Z) Z Z (B1 (C6 Z Z (by omega)) Z Z (B1 (d7 Z (.pure _ _ _ _) Z Z (by omega) (by omega) (by omega)) Z Z (B1 (F5 Z hob Z (by omega) (by (first | omega | (rw [hgC];omega)))) Z Z (F67 (H4 TySz.out Z hob (by (first | omega | (rw [L01,hgC];omega))) Z Z) Z (L4 ?_)))))))))))))))))))))
 rw [eAB,L01,L01,hnew]
 refine k4 (k1 ?_)
 refine A4 (A3 (C6 Z Z (by omega)) Z (A3 (A5 Z Z) Z (A7 ?_)))
 refine k1 ?_
 refine ⟨i+1,by omega,by omega,?_⟩
 refine K61 ⟨le1 rfl,le1 rfl,le1 rfl,le1 rfl,le1 rfl,le1 rfl,trivial⟩ (J5 hH) (by repeat (first | exact C5 | refine tail_drop rfl ?_ | refine tail_cons rfl ?_ | refine A16 _ rfl ?_)) ?_
 rw [←hm2]
 obtain ⟨g2,hg2⟩:∃g2,g2=(cs.take (i+1)).foldl (P1 p file) g:=⟨_,rfl⟩
 rw [←hg2] at hsame ⊢
 intro k o hk
 have h1:=J90 (c:=intsC) (g:=g1) (g':=g2) (pre:=[(4,y7),(730,c6 names lines n),(731,.arr Int 1 C68 m2),(732,.growT 114 (lines.length+1) 1 (R8 (lines.length+1)))]) rfl (List.mem_range.2 hC) hsame k o hk
 by_cases hkC:C+1000=k
 ·subst hkC;rw [C9] at h1 ⊢;exact h1
 ·rw [B6 hkC] at h1 ⊢
  by_cases h7:708=k
  ·subst h7
   have:C2 ([(4,y7),(730,c6 names lines n),(731,.arr Int 1 C68 m2),(732,.growT 114 (lines.length+1) 1 (R8 (lines.length+1)))]++L7 intsC g1 (List.range (lines.length+1))) 708=none:=by
    rw [O0 rfl];exact J89 (by omega)
   rw [this] at h1;cases h1
  ·rw [B6 h7];exact h1
abbrev A33 (names:List Str) (lines ms:List Int) (gs:List (List (List Int))) (n:Nat) (rows:List Row):Obs :=
 [(4,y7),(730,.box [.p (.list Str 1 M1 names),.p (.list Int 1 G6 lines),.p (.list Int 1 C68 ms),.p (.list (List (List Int)) 1 intssC gs),.p (.v (.int .i64 n)),.buf 733 Row 3 rowC rows]),(733,.spare rows.length 3 69)]
set_option maxHeartbeats 1000000
theorem I12 {gf:Fr} (names file:List Str) (lines ms:List Int) (g:Nat→List (List Int)) (n B:Nat) (hl:file.length≤4096) (hll:lines.length=file.length) (hms:ms.length=file.length) (hn:1≤n∧n≤32) (hB:n*B≤4096)
  (hg:∀k,(g k).length=n∧∀x∈g k,x.length≤B∧∀v∈x,0≤v∧v < (names.length:Int)) (hnm:∀k,k < file.length→0≤lines.getD k 0∧names[(lines.getD k 0).toNat]?=some (file.getD k [])) :
  AL.Met Tryz.prog 176 [.one (.ref 730 0)] gf (A33 names lines ms ((List.range (file.length+1)).map g) n []) [708,733]
   (fun rs ob'=>rs=[.one (.p (.v (.int .i64 0)))]∧ob'=A33 names lines ms ((List.range (file.length+1)).map g) n (X0 names file (ms,g) (file.length+1))):=by
 obtain ⟨gs,hgs⟩:∃gs,gs=(List.range (file.length+1)).map g:=⟨_,rfl⟩
 have hgl:gs.length=file.length+1:=by rw [hgs];simp
 obtain ⟨R,hR⟩:∃R:Nat→List Row,R=fun k=>X0 names file (ms,g) k:=⟨_,rfl⟩
 obtain ⟨F,hF⟩:∃F:Merged→Row,F=fun m=>⟨true,m.Parents,names.getD m.Line.toNat []⟩:=⟨_,rfl⟩
 have hcs:∀k,(H2 (g k)).1.length≤4096∧∀m∈(H2 (g k)).1,(0≤m.Parents∧m.Parents < 4294967296)∧0≤m.Line∧m.Line < (names.length:Int):=fun k=>by
  have h3:=A69 (fun v=>0≤v∧v < (names.length:Int)) B (g k) (hg k).2
  rw [(hg k).1] at h3
  exact ⟨by omega,h3.2⟩
 have hR1:∀k,R (k+1)=R k++((H2 (g k)).1.map F++(if k < file.length then [⟨false,ms.getD k 0,file.getD k []⟩] else [])):=fun k=>by
  rw [hR];dsimp only;rw [D83,S6,hF]
 have hRl:∀k,(R k).length≤k*4097:=fun k=>by
  induction k with
  | zero=>rw [hR];simp [X0]
  | succ k ih=>rw [hR1];have:=(hcs k).1;simp only [K96,L26];split<;>simp<;>omega
 have hRn:X0 names file (ms,g) (file.length+1)=R (file.length+1):=by rw [hR]
 rw [hRn,←hgs]
 have hR0:R 0=[]:=by rw [hR];rfl
 refine AL.Met.introH Tryz.func176 (by decide) rfl rfl rfl (fun hH=>?_)
 refine k2 ?_
 refine A4 (A3 (A6 Z Z) Z (A7 ?_))
 refine k1 (k2 (k2 ?_))
 refine A4 (A3 (A5 Z Z) Z (A3 (B2 Z) Z (A3 (A8 Z) Z (A3 (A9 Z Z Z) Z (A3 (F1 Z (.pure _ _ _ _)) Z (A3 (A5 Z Z) Z (A7 ?_)))))))
 refine k1 (k3 ?_)
 refine E8 (K77 [708,733] (l:=[(0,.s (.one (.ref 730 0))),(12,D2 (List (List Int)) 1 intssC gs),(13,C0 gs.length),(14,C0 0)]) (ob':=A33 names lines ms gs n []) ⟨le1 rfl,le1 rfl,le1 rfl,le1 rfl,trivial⟩ hH (by repeat (first | exact C5 | refine tail_cons rfl ?_)) (fun _ _ h=>h)) ?_
 refine E1 (X:=Nat) (fun k=>([(0,.s (.one (.ref 730 0))),(12,D2 (List (List Int)) 1 intssC gs),(13,C0 gs.length),(14,C0 k)]++E0 [708,733] gf,A33 names lines ms gs n (R k))) (fun k=>k≤file.length+1) (fun k=>file.length+1 - k) 0 (Nat.zero_le _) (by rw [hR0];exact K65 fun _ _ h=>h) ?_
 intro k hk
 dsimp only at hk ⊢
 have hRk:=hRl k
 refine k2 ?_
 refine A4 (A3 (E6 Z Z) Z (A7 ?_))
 refine k1 (k2 ?_)
 refine B4 rfl (fun ht=>?_) (fun ht=>?_)
 rotate_left
 ·have hkl:k=file.length+1:=by have:=A1 ht;omega
  rw [hkl]
  refine k6 (k2 ?_)
  refine A4 (A3 (A6 Z Z) Z (A7 ?_))
  refine k1 (k10 ?_)
  exact G8 (R6 rfl rfl) (by repeat (first | exact C5 | refine tail_cons rfl ?_)) (fun _ _ h=>h) ⟨rfl,rfl⟩
 have hlt:k < file.length+1:=by have:=A0 ht;omega
 have hgv:gs[k]?=some (g k):=by rw [hgs,L30,L37 hlt];rfl
 have hck:=hcs k
 have hgk:=hg k
 have hC:=G51 (g k) B (by omega) (by omega) (fun x hx=>(hgk.2 x hx).1) (by rw [hgk.1];exact hB)
 have hRs:=hR1 k
 obtain ⟨l,hld⟩:∃l,l=(H2 (g k)).1:=⟨_,rfl⟩
 rw [←hld] at hck hC hRs
 refine k5 (k1 (k2 (k3 (k2 ?_))))
 refine A4 (A3 (A5 Z Z) Z (A3 (B9 Z (.pure _ _ _ _) Z (by omega) hgv) Z (A3 (C8 Z Z) Z (A3 (A6 Z Z) Z (A3 (A6 Z Z) Z (A7 ?_))))))
 refine k1 (k2 ?_)
 refine A4 (A3 (A5 Z Z) Z (C1 (hC) Z Z Z ?_));rintro _ rfl;refine A3 (A5 Z Z) Z (A3 (B3 Z Z) Z (A3 (B3 Z Z) Z (A3 (A6 Z Z) Z (A3 (A6 Z Z) Z (A7 ?_)))))
 refine k1 (k2 (k2 ?_))
 refine A4 (A3 (A5 Z Z) Z (A3 (O6 Z Z) Z (A7 ?_)))
 refine k1 ?_
 refine B4 rfl (fun ht=>?_) (fun ht=>?_)
 ·cases ht
 refine k5 (k1 (k2 (k2 ?_)))
 refine A4 (A3 (A5 Z Z) Z (A3 (F1 Z (.pure _ _ _ _)) Z (A3 (A5 Z Z) Z (A7 ?_))))
 refine k1 (k3 ?_)
 refine E1 (X:=Nat) (fun i=>([(0,.s (.one (.ref 730 0))),(3,C0 k),(12,D2 (List (List Int)) 1 intssC gs),(13,C0 gs.length),(14,C0 k),(27,D2 Merged 2 mergedC l),(28,C0 l.length),(29,C0 i)]++E0 [708,733] gf,A33 names lines ms gs n (R k++(l.take i).map F))) (fun i=>i≤l.length) (fun i=>l.length - i) 0 (Nat.zero_le _) ?_ ?_
 ·dsimp only
  rw [List.take_zero,L36,L21]
  exact K61 ⟨le1 rfl,le1 rfl,le1 rfl,le1 rfl,le1 rfl,le1 rfl,le1 rfl,le1 rfl,trivial⟩ (J5 hH) (by repeat (first | exact C5 | refine tail_cons rfl ?_)) (fun _ _ h=>h)
 intro i hi
 dsimp only at hi ⊢
 have hil:(R k++(l.take i).map F).length≤k*4097+4096:=by simp only [K96,L26,L08];omega
 refine k2 ?_
 refine A4 (A3 (E6 Z Z) Z (A7 ?_))
 refine k1 (k2 ?_)
 refine B4 rfl (fun ht=>?_) (fun ht=>?_)
 ·have hli:i < l.length:=by have:=A0 ht;omega
  have hlv:l[i]?=some l[i]:=by simp [hli]
  have hlb:=hck.2 l[i] (L15 hli)
  have hst:(l.take (i+1)).map F=(l.take i).map F++[F l[i]]:=by rw [L06 hli];simp only [L14,L04,L36]
  obtain ⟨m,hm⟩:∃m,m=l[i]:=⟨_,rfl⟩
  rw [←hm] at hlv hlb hst
  have hnv:names[m.Line.toNat]?=some (names.getD m.Line.toNat []):=by rw [L00,K97 (by omega)];rfl
  have hFi:F m=⟨true,m.Parents,names.getD m.Line.toNat []⟩:=by rw [hF]
  obtain ⟨Q,hQ⟩:∃Q,Q=R k++(l.take i).map F:=⟨_,rfl⟩
  rw [←hQ] at hil ⊢
  refine k5 (k1 (k2 (k3 (k2 ?_))))
  refine A4 (A3 (B9 Z (.pure _ _ _ _) Z (by omega) hlv) Z (A3 (F4 Z Z) Z (C7 (G34 708 Z (by decide)) Z (E5 (B7 TySz.out Z Z Z Z Z Z) (A7 ?_)))))
  refine k1 ?_
  refine K4 ([(0,.s (.one (.ref 730 0))),(3,C0 k),(8,.s (.one (.ref 708 0))),(12,D2 (List (List Int)) 1 intssC gs),(13,C0 gs.length),(14,C0 k),(27,D2 Merged 2 mergedC l),(28,C0 l.length),(29,C0 i)]++E0 [708,733] gf) ((708,.box [.p (.v (.int .i64 m.Line)),.p (.v (.int .u32 m.Parents))])::A33 names lines ms gs n Q) (K61 ⟨le1 rfl,le1 rfl,le1 rfl,le1 rfl,le1 rfl,le1 rfl,le1 rfl,le1 rfl,le1 rfl,trivial⟩ (J5 hH) (by repeat (first | exact C5 | refine tail_cons rfl ?_ | refine A16 _ rfl ?_)) (ObIn.spec (ob':=(708,.box [.p (.v (.int .i64 m.Line)),.p (.v (.int .u32 m.Parents))])::A33 names lines ms gs n Q) ⟨rfl,rfl,rfl,rfl,trivial⟩)) ?_
  refine O2 [22,18] [[],[18],[22,18]] [(18,([733],[38])),(22,([],[]))] [(0,[]),(1,[]),(2,[]),(3,[]),(4,[]),(5,[]),(6,[]),(7,[]),(8,[]),(9,[]),(10,[]),(11,[]),(12,[]),(13,[]),(14,[]),(15,[]),(16,[]),(17,[]),(18,[]),(19,[18]),(20,[18]),(21,[18]),(22,[18])] [(0,[18])] (by kernel_rfl) (by kernel_rfl) (D6 Z Z (by kernel_rfl) Z Z (A5 Z Z) (D6 Z Z (by kernel_rfl) Z Z (A5 Z Z) (D6 Z Z (by kernel_rfl) Z Z (B2 Z) (D6 Z Z (by kernel_rfl) Z Z (A8 Z) (D6 Z Z (by kernel_rfl) Z Z (A8 Z) (D6 Z Z (by kernel_rfl) Z Z (A9 Z Z Z) (D6 Z Z (by kernel_rfl) Z Z (A8 Z) (D6 Z Z (by kernel_rfl) Z Z (A9 Z Z Z) (D6 Z Z (by kernel_rfl) Z Z (A5 Z Z) (D6 Z Z (by kernel_rfl) Z Z (B2 Z) (D6 Z Z (by kernel_rfl) Z Z (A8 Z) (D6 Z Z (by kernel_rfl) Z Z (A9 Z Z Z) (D6 Z Z (by kernel_rfl) Z Z (A8 Z) (D6 Z Z (by kernel_rfl) Z Z (A9 Z Z Z) (D6 Z Z (by kernel_rfl) Z Z (B9 Z (.pure _ _ _ _) Z (by omega) hnv) (D6 Z Z (by kernel_rfl) Z Z (C8 Z Z) (D6 Z Z (by kernel_rfl) Z Z (G4 Z) (D6 Z Z (by kernel_rfl) Z Z (E4 (c:=rowC) (ys:=[⟨true,m.Parents,names.getD m.Line.toNat []⟩]) (F3 Z Z Z Z I6) Z Z Z) (V6 Z Z (by kernel_rfl) Z Z (A97 (fun frc hU=>L0 (T5 hU Z) Z (T5 hU Z) (.pure _ _ _ _) (by (simp only [K99,L02];omega)) Z)) Z (D6 Z Z (by kernel_rfl) Z Z (B2 Z) (D6 Z Z (by kernel_rfl) Z Z (A8 Z) (D6 Z Z (by kernel_rfl) Z Z (A8 Z) (V6 Z Z (by kernel_rfl) Z Z (C82 (fun frc hU=>B7 TySz.out (T5 hU Z) Z (T5 hU Z) Z Z Z)) Z ?_)))))))))))))))))))))));refine w_nilG rfl (by kernel_rfl) rfl ?_ ?_
  ·refine K6 Z Z (by kernel_rfl) Z Z (A5 Z Z) ?_;exact C14
  refine k4 (k1 ?_)
  refine A4 (A3 (C6 Z Z (by omega)) Z (A3 (A5 Z Z) Z (A7 ?_)))
  refine k1 ?_
  refine ⟨i+1,by omega,by omega,?_⟩
  rw [hst,hFi,←L09,←hQ]
  exact K61 ⟨le1 rfl,le1 rfl,le1 rfl,le1 rfl,le1 rfl,le1 rfl,le1 rfl,le1 rfl,trivial⟩ (J5 hH) (by repeat (first | exact C5 | refine tail_drop rfl ?_ | refine tail_cons rfl ?_ | refine A16 _ rfl ?_)) (ObIn.spec (ob':=A33 names lines ms gs n (Q++[⟨true,m.Parents,names.getD m.Line.toNat []⟩])) ⟨rfl,rfl,rfl,trivial⟩)
 have hil2:i=l.length:=by have:=A1 ht;omega
 rw [hil2,L27] at hil ⊢
 rw [←L09] at hRs
 obtain ⟨Q,hQ⟩:∃Q,Q=R k++l.map F:=⟨_,rfl⟩
 rw [←hQ] at hil hRs ⊢
 refine k6 (k2 ?_)
 ·skip
  refine A4 (A3 (A5 Z Z) Z (A3 (A5 Z Z) Z (A3 (B2 Z) Z (A3 (A8 Z) Z (A3 (A9 Z Z Z) Z (A3 (F1 Z (.pure _ _ _ _)) Z (A3 (E6 Z Z) Z (A7 ?_))))))))
  refine k1 ?_
  refine B4 rfl (fun ht=>?_) (fun ht=>?_)
  ·have hkf:k < file.length:=by have:=A0 ht;omega
   rw [if_pos hkf] at hRs
   obtain ⟨q1,q2⟩:=hnm k hkf
   have hmv:ms[((k:Nat):Int).toNat]?=some (ms.getD k 0):=by rw [L01,L00,K97 (by omega)];rfl
   have hlv:lines[((k:Nat):Int).toNat]?=some (lines.getD k 0):=by rw [L01,L00,K97 (by omega)];rfl
   have q3:=(List.getElem?_eq_some_iff.1 q2).1
   skip
   refine K4 ([(0,.s (.one (.ref 730 0))),(3,C0 k),(12,D2 (List (List Int)) 1 intssC gs),(13,C0 gs.length),(14,C0 k)]++E0 [708,733] gf) (A33 names lines ms gs n Q) (K61 ⟨le1 rfl,le1 rfl,le1 rfl,le1 rfl,le1 rfl,trivial⟩ (J5 hH) (by repeat (first | exact C5 | refine tail_cons rfl ?_)) (fun _ _ h=>h)) ?_
   refine O2 [32,28] [[],[28],[32,28]] [(28,([733],[68])),(32,([],[]))] [(0,[]),(1,[]),(2,[]),(3,[]),(4,[]),(5,[]),(6,[]),(7,[]),(8,[]),(9,[]),(10,[]),(11,[]),(12,[]),(13,[]),(14,[]),(15,[]),(16,[]),(17,[]),(18,[]),(19,[]),(20,[]),(21,[]),(22,[]),(23,[]),(24,[]),(25,[]),(26,[]),(27,[]),(28,[]),(29,[28]),(30,[28]),(31,[28]),(32,[28])] [(0,[28])] (by kernel_rfl) (by kernel_rfl) (D6 Z Z (by kernel_rfl) Z Z (A5 Z Z) (D6 Z Z (by kernel_rfl) Z Z (A5 Z Z) (D6 Z Z (by kernel_rfl) Z Z (B2 Z) (D6 Z Z (by kernel_rfl) Z Z (A8 Z) (D6 Z Z (by kernel_rfl) Z Z (A8 Z) (D6 Z Z (by kernel_rfl) Z Z (A9 Z Z Z) (D6 Z Z (by kernel_rfl) Z Z (A5 Z Z) (D6 Z Z (by kernel_rfl) Z Z (B2 Z) (D6 Z Z (by kernel_rfl) Z Z (A8 Z) (D6 Z Z (by kernel_rfl) Z Z (A9 Z Z Z) (D6 Z Z (by kernel_rfl) Z Z (A5 Z Z) (D6 Z Z (by kernel_rfl) Z Z (B9 Z (.pure _ _ _ _) Z (by omega) hmv) (D6 Z Z (by kernel_rfl) Z Z (C8 Z Z) (D6 Z Z (by kernel_rfl) Z Z (A5 Z Z) (D6 Z Z (by kernel_rfl) Z Z (B2 Z) (D6 Z Z (by kernel_rfl) Z Z (A8 Z) (D6 Z Z (by kernel_rfl) Z Z (A9 Z Z Z) (D6 Z Z (by kernel_rfl) Z Z (A5 Z Z) (D6 Z Z (by kernel_rfl) Z Z (B2 Z) (D6 Z Z (by kernel_rfl) Z Z (A8 Z) (D6 Z Z (by kernel_rfl) Z Z (A9 Z Z Z) (D6 Z Z (by kernel_rfl) Z Z (A5 Z Z) (D6 Z Z (by kernel_rfl) Z Z (B9 Z (.pure _ _ _ _) Z (by omega) hlv) ?_)))))))))))))))))))))));refine D6 Z Z (by kernel_rfl) Z Z (C8 Z Z) (D6 Z Z (by kernel_rfl) Z Z (B9 Z (.pure _ _ _ _) Z (by omega) q2) (D6 Z Z (by kernel_rfl) Z Z (C8 Z Z) (D6 Z Z (by kernel_rfl) Z Z (G4 Z) (D6 Z Z (by kernel_rfl) Z Z (E4 (c:=rowC) (ys:=[⟨false,ms.getD k 0,file.getD k []⟩]) (F3 Z Z Z Z I6) Z Z Z) (V6 Z Z (by kernel_rfl) Z Z (A97 (fun frc hU=>L0 (T5 hU Z) Z (T5 hU Z) (.pure _ _ _ _) (by (simp only [K99,L02];omega)) Z)) Z (D6 Z Z (by kernel_rfl) Z Z (B2 Z) (D6 Z Z (by kernel_rfl) Z Z (A8 Z) (D6 Z Z (by kernel_rfl) Z Z (A8 Z) (V6 Z Z (by kernel_rfl) Z Z (C82 (fun frc hU=>B7 TySz.out (T5 hU Z) Z (T5 hU Z) Z Z Z)) Z ?_)))))))))
   refine w_nilG rfl (by kernel_rfl) rfl ?_ ?_
   ·refine K6 Z Z (by kernel_rfl) Z Z (A5 Z Z) ?_;exact C14
   refine k4 (k1 ?_)
   refine A4 (A3 (C6 Z Z (by omega)) Z (A3 (A5 Z Z) Z (A7 ?_)))
   refine k1 ?_
   refine ⟨k+1,by omega,by omega,?_⟩
   rw [hRs]
   exact K61 ⟨le1 rfl,le1 rfl,le1 rfl,le1 rfl,trivial⟩ (J5 hH) (by repeat (first | exact C5 | refine tail_drop rfl ?_ | refine tail_cons rfl ?_ | refine A16 _ rfl ?_)) (ObIn.spec (ob':=A33 names lines ms gs n (Q++[⟨false,ms.getD k 0,file.getD k []⟩])) ⟨rfl,rfl,rfl,trivial⟩)
  ·have hkf:¬k < file.length:=by have:=A1 ht;omega
   rw [if_neg hkf,L21] at hRs
   refine k5 (k4 (k1 ?_))
   refine A4 (A3 (C6 Z Z (by omega)) Z (A3 (A5 Z Z) Z (A7 ?_)))
   refine k1 ?_
   refine ⟨k+1,by omega,by omega,?_⟩
   rw [hRs]
   exact K61 ⟨le1 rfl,le1 rfl,le1 rfl,le1 rfl,trivial⟩ (J5 hH) (by repeat (first | exact C5 | refine tail_drop rfl ?_ | refine tail_cons rfl ?_ | refine A16 _ rfl ?_)) (fun _ _ h=>h)
theorem I13 (l:List Str) (s:Str):∀k:Int,0≤k→s∈l→l[(I7 l s k - k).toNat]?=some s:=by
 induction l with
 | nil=>intro k _ h;cases h
 | cons x r ih =>
  intro k h0 h
  by_cases hx:x=s
  ·unfold I7
   rw [if_pos hx,Int.sub_self,hx];rfl
  ·have hm:s∈r:=by rcases List.mem_cons.1 h with rfl | h;exact absurd rfl hx;exact h
   have h1:=ih (k+1) (by omega) hm
   have h2:=B07 r s (k+1) (by omega) hm
   unfold I7
   rw [if_neg hx,show (I7 r s (k+1) - k).toNat=(I7 r s (k+1) - (k+1)).toNat+1 by omega,List.getElem?_cons_succ]
   exact h1
theorem H23 (k:Nat):(R8 k++[TC.mut 734]).map (TC.ren 734 (k+1000))=R8 (k+1):=by
 unfold R8 O1
 rw [L14,L38,L14,L34]
 have h1:(List.range k).map (TC.ren 734 (k+1000) ∘ fun r=>if r < 0 then TC.p (.list (List Int) 1 intsC []) else TC.mut (r+1000))=(List.range k).map fun r=>if r < 0 then TC.p (.list (List Int) 1 intsC []) else TC.mut (r+1000):=by
  refine List.map_congr_left fun r hr=>?_
  show TC.ren 734 (k+1000) (if r < 0 then _ else TC.mut (r+1000))=_
  rw [if_neg (by omega)]
  simp [TC.ren,I0 (show r+1000≠734 by omega)]
 exact congr (congrArg _ h1) (by simp [TC.ren])
abbrev G52 (n:Nat):Nat→List (List Int):=fun _=>List.replicate n []
theorem K02 {k:Nat} (hk:k < 1000) {m:Nat} {g:Nat→List (List Int)}:H7 k (L7 intsC g (List.range m))=true:=C36 (k:=k) (by omega) (List.range m) (fun r _=>by omega) (c:=intsC) (g:=g)
abbrev I83 (names:List Str) (lines ms:List Int) (n k:Nat):Obs:=[(4,y7),(730,c6 names lines n),(731,.arr Int 1 C68 ms),(732,.growT 114 k 1 (R8 k))]
theorem G53 (k:Nat):(R8 k).all (TC.free (k+1000))=true:=by
 rw [List.all_eq_true]
 intro t ht
 obtain ⟨r,hr,rfl⟩:=List.mem_map.1 ht
 have:=List.mem_range.1 hr
 rw [if_neg (by omega)]
 simp [TC.free,I0 (show r+1000≠k+1000 by omega)]
theorem I14 (m:Nat) (g:Nat→List (List Int)):R8 m=O1 intsC m 0 g:=by
 unfold R8 O1
 refine List.map_congr_left fun r _=>?_
 rw [if_neg (by omega),if_neg (by omega)]
theorem I15 (q:Nat) (g:Nat→List (List Int)) (l:List Nat):Obs.forget q (L7 intsC g l)=L7 intsC g l:=by
 unfold Obs.forget L7
 rw [L34]
 exact List.map_congr_left fun r _=>rfl
theorem gap_fgt {K:List Nat} {q:Nat} {g:Nat→List (List Int)} {l:List Nat}:∀j x,R7 K j=false→C2 (L7 intsC g l) j=some x→C2 (Obs.forget q (L7 intsC g l)) j=some x:=fun j x _ h=>by rw [I15];exact h
theorem E62 (q:Nat) (names:List Str) (lines ms:List Int) (n k:Nat) (hq:q < 1000) (h1:4≠q) (h2:730≠q) (h3:731≠q) (h4:732≠q) (g:Nat→List (List Int)):H7 q (I83 names lines ms n k++L7 intsC g (List.range k))=true:=by
 show H7 q ((4,y7)::(730,c6 names lines n)::(731,.arr Int 1 C68 ms)::(732,.growT 114 k 1 (R8 k))::L7 intsC g (List.range k))=true
 simp only [H7,Ob.free,List.all_cons,List.all_nil,TC.free,K02 hq,B56 hq,I0 h1,I0 h2,I0 h3,I0 h4,I0 (Ne.symm h3),I0 (Ne.symm h4)]
 rfl
theorem J23 {P:Program} {nt:Nat} {fr:Fr} {names:List Str} {lines ms:List Int} {n k:Nat} (hk:k≤100000) (hfr:G3 (k+1000) fr=true) :
  Sees P nt fr ([(4,y7),(730,c6 names lines n),(731,.arr Int 1 C68 ms),(732,.growT 114 (k+1) 1 (R8 k++[TC.mut 734])),(734,.arr (List Int) 1 intsC (List.replicate n [])),(735,.tarr 1 1 [.mut 734])]++L7 intsC (G52 n) (List.range k))
   fr (I83 names lines ms n (k+1)++L7 intsC (G52 n) (List.range (k+1))):=by
 refine K88 (j:=734) (k:=k+1000) Z (by simp;omega) (by omega) hfr ?_
 intro i o h
 have b731:=I0 (show 731≠k+1000 by omega)
 have b732:=I0 (show 732≠k+1000 by omega)
 have b734:=I0 (show 734≠k+1000 by omega)
 by_cases e1:i=4
 ·subst e1
  have h:some y7=some o:=h
  cases h
  exact ⟨by omega,y7,by rw [if_neg (by omega)];rfl,rfl,rfl⟩
 by_cases e2:i=730
 ·subst e2
  have h:some (c6 names lines n)=some o:=h
  cases h
  exact ⟨by omega,c6 names lines n,by rw [if_neg (by omega)];rfl,by simp [Ob.free,TC.free,b731,b732],rfl⟩
 by_cases e3:i=731
 ·subst e3
  have h:some (.arr Int 1 C68 ms)=some o:=h
  cases h
  exact ⟨by omega,_,by rw [if_neg (by omega)];rfl,rfl,rfl⟩
 by_cases e4:i=732
 ·subst e4
  have h:some (.growT 114 (k+1) 1 (R8 (k+1)))=some o:=h
  cases h
  refine ⟨by omega,.growT 114 (k+1) 1 (R8 k++[TC.mut 734]),by rw [if_neg (by omega)];rfl,?_,?_⟩
  ·simp only [Ob.free,L45,G53,List.all_cons,List.all_nil,TC.free,b734];rfl
  ·show _=Ob.growT _ _ _ _
   rw [H23]
 have h:C2 ([(4,y7),(730,c6 names lines n),(731,.arr Int 1 C68 ms),(732,.growT 114 (k+1) 1 (R8 (k+1)))]++L7 intsC (G52 n) (List.range (k+1))) i=some o:=h
 have hno:C2 ([(4,y7),(730,c6 names lines n),(731,.arr Int 1 C68 ms),(732,.growT 114 (k+1) 1 (R8 (k+1)))]:Obs) i=none:=by
  rw [B6 (Ne.symm e1),B6 (Ne.symm e2),B6 (Ne.symm e3),B6 (Ne.symm e4)];rfl
 rw [O0 hno] at h
 obtain ⟨r,h1,rfl,rfl⟩:=(A27 _ _ _).1 h
 have h1:=List.mem_range.1 h1
 refine ⟨by omega,.arr (List Int) 1 intsC (List.replicate n []),?_,rfl,rfl⟩
 by_cases er:r=k
 ·subst er;rw [if_pos rfl];rfl
 ·rw [if_neg (by omega),O0 (B44 rfl (by omega))]
  exact B87 (List.mem_range.2 (by omega))
set_option maxHeartbeats 2000000
theorem K03 (result:Str) (parents:List Str) (B:Nat) (hpl:parents.length≤536870912) (hB:32*B≤4096) (h0:(C3 result).length≤B∧result.length≤4096) (h1:∀b∈parents,(C3 b).length≤B∧b.length≤4096) :
  FnOk Tryz.prog 97 [G7 result,m6 parents] (fun rs=>rs=[pTable (E9 result parents).1,F2 (E9 result parents).2]):=by
 refine FnOk.intro Tryz.func97 (by decide) Z Z Z Z ?_
 refine k2 ?_
 refine A4 (C7 (F9 4 Z) Z (A3 (A6 Z Z) Z (A7 ?_)))
 refine k1 (k2 ?_)
 refine A4 (A3 (A5 Z Z) Z (A3 (F1 Z (.pure _ _ _ _)) Z (A3 (A6 Z Z) Z (A7 ?_))))
 refine k1 (k2 (k2 ?_))
 refine A4 (A3 (A5 Z Z) Z (A3 (E6 Z Z) Z (A3 (A5 Z Z) Z (B0 Z Z Z Z (fun hg=>by rw [hg];exact A5 Z Z) ?_))));refine B0 Z Z Z Z (fun hg=>by rw [hg];exact R5 Z Z) ?_;refine A3 (B5 Z (fun h=>by first | rfl | (rw [h];rfl)) (fun h=>by first | rfl | (rw [h];rfl))) Z ?_;refine A7 ?_
 refine k1 ?_
 refine B4 rfl (fun ht=>?_) (fun ht=>?_)
 ·have hc:=A0 (or_pick.symm.trans ht)
  refine k2 ?_
  refine A4 (A3 (G4 Z) Z (E5 (B7 TySz.out Z Z Z Z Z Z) (A3 (A6 Z Z) Z (A7 ?_))))
  refine k1 ?_
  refine E8 (K62 Row 3 rowC 4 1 Z Z) ?_
  refine k10 (k11 ?_)
  exact B8 (rs:=[pTable ⟨0,[]⟩,F2 2]) (U0 rfl rfl rfl rfl rfl rfl rfl) (by rw [E9,if_pos (by omega)])
 have hc:=A1 (or_pick.symm.trans ht)
 obtain ⟨n,hn⟩:∃n,n=parents.length:=⟨_,rfl⟩
 have hn1:1≤n∧n≤32:=by omega
 obtain ⟨f0,hf0⟩:∃f0,f0=C3 result:=⟨_,rfl⟩
 obtain ⟨fs,hfs⟩:∃fs,fs=C3 result::parents.map C3:=⟨_,rfl⟩
 have hfsm:fs=(result::parents).map C3:=by rw [hfs];rfl
 have hfl:fs.length=n+1:=by rw [hfs,hn];simp
 have hfB:∀f∈fs,f.length≤B:=by
  intro f hf
  rw [hfs] at hf
  rcases List.mem_cons.1 hf with rfl | hf
  ·exact h0.1
  ·obtain ⟨b,hb,rfl⟩:=List.mem_map.1 hf;exact (h1 b hb).1
 have hflat:fs.flatten.length≤(n+1)*B:=by
  rw [←hfl]
  clear hfsm hfs hfl
  induction fs with
  | nil=>simp
  | cons x r ih =>
   have:=ih fun f hf=>hfB f (List.mem_cons_of_mem _ hf)
   have:=hfB x (by simp)
   rw [L16,K96,K99,L20,Nat.one_mul];omega
 have hnB:n*B≤4096:=Nat.le_trans (L11 _ hn1.2) hB
 have hB1:(n+1)*B≤8192:=by rw [L20,Nat.one_mul];omega
 obtain ⟨names,hnames⟩:∃names,names=I8 fs:=⟨_,rfl⟩
 obtain ⟨ids,hids⟩:∃ids,ids=fs.map (O9 names):=⟨_,rfl⟩
 have hidl:ids.length=n+1:=by rw [hids,L26,hfl]
 obtain ⟨base,hbase⟩:∃base,base=O9 names f0:=⟨_,rfl⟩
 have hb0:base=ids.getD 0 []:=by rw [hids,hfs,hbase,hf0];rfl
 have hbl:base.length=f0.length:=by rw [hbase];simp [O9]
 have hf0B:f0.length≤B:=by rw [hf0];exact h0.1
 have hidB:∀x∈ids,x.length≤B∧∀v∈x,0≤v∧v < (names.length:Int):=by
  intro x hx
  have h2:∀v∈x,0≤v∧v < (names.length:Int):=by rw [hnames];exact ids_in fs x (by rw [←hnames,←hids];exact hx)
  rw [hids] at hx
  obtain ⟨f,hf,rfl⟩:=List.mem_map.1 hx
  exact ⟨by rw [O9,L26];exact hfB f hf,h2⟩
 have hv0:ids[(0:Int).toNat]?=some base:=by rw [hb0,L00];show ids[0]?=_;rw [K97 (by omega)];rfl
 have hsame:=fun p hp=>B99 (n:=n) hb0 (fun x hx=>by have:=(hidB x hx).1;omega) (by omega) p hp
 have hok:∀p,LoomOk (fun v=>0≤v∧v < (names.length:Int)) B base.length n (W9 ids base.length n p):=fun p=>A82 hidB p
 have hmk:E9 result parents=(⟨n,X0 names f0 (W9 ids base.length n n) (f0.length+1)⟩,0):=by
  rw [E9,if_neg (by omega)]
  dsimp only
  rw [←hfs,←hnames,←hids,←hf0,←hn,←hbl]
  rw [if_neg]
  rintro ⟨k,hk,hk2⟩
  refine hk2 ?_
  have h3:=(hok n).gaps k
  unfold H2
  rw [if_neg (by omega)]
  exact B29 _ _ _ B (fun x hx=>(h3.2 x hx).1) (by rw [h3.1];simp only [L02];omega)
 rw [hmk]
 refine K4 [(0,J3 result),(1,D2 Str 1 M1 parents),(4,.s (.one (.ref 4 0))),(6,C0 n)] [(4,y7)] (by rw [hn];exact K60 ⟨le1 rfl,le1 rfl,le1 rfl,le1 rfl,trivial⟩ ⟨rfl,trivial⟩) ?_
 refine k5 (k1 (k2 ?_))
 refine A4 (C7 (B85 760 _ strsC Z) Z (A7 ?_))
 refine k1 (k2 (k2 ?_))
 obtain ⟨bl,hbld⟩:∃bl,bl=result::parents:=⟨_,rfl⟩
 have hbll:bl.length=n+1:=by rw [hbld,hn];simp
 refine A4 (A3 (A5 Z Z) Z (A3 (B53 (c:=M1) (ys:=[result]) (F3 Z Z Z Z I6) Z Z Z) Z (A3 (A5 Z Z) Z (A3 (C16 Z Z (.pure _ _ _ _) (by (simp only [K99,L02];omega)) ((by omega))) Z (A3 (F1 Z (.pure _ _ _ _)) Z (A3 (A5 Z Z) Z (A7 ?_)))))))
 refine k1 (k3 ?_)
 rw [show [result]++parents=bl by rw [hbld];rfl]
 have hblB:∀b∈bl,(C3 b).length≤B∧b.length≤4096:=by
  intro b hb
  rw [hbld] at hb
  rcases List.mem_cons.1 hb with rfl | hb
  ·exact h0
  ·exact h1 b hb
 have hfsb:fs=bl.map C3:=by rw [hfsm,hbld]
 refine E1 (X:=Nat) (fun k=>([(4,.s (.one (.ref 4 0))),(6,C0 n),(7,.s (.one (.buf 760 (List Str) 1 strsC ((bl.take k).map C3)))),(29,D2 Str 1 M1 bl),(30,C0 bl.length),(31,C0 k)],[(4,y7),(760,.spare ((bl.take k).map C3).length 1 76)])) (fun k=>k≤bl.length) (fun k=>bl.length - k) 0 (Nat.zero_le _) (K60 ⟨le1 rfl,le1 rfl,le1 rfl,le1 rfl,le1 rfl,le1 rfl,trivial⟩ ⟨rfl,rfl,trivial⟩) ?_
 intro k hk
 dsimp only at hk ⊢
 have hml:((bl.take k).map C3).length=k:=by rw [L26,L08];omega
 refine k2 ?_
 refine A4 (A3 (E6 Z Z) Z (A7 ?_))
 refine k1 (k2 ?_)
 refine B4 rfl (fun ht=>?_) (fun ht=>?_)
 ·have hlt:k < bl.length:=by have:=A0 ht;omega
  have hv:bl[k]?=some bl[k]:=by simp [hlt]
  have hbB:=hblB _ (L15 hlt)
  have hst:(bl.take (k+1)).map C3=(bl.take k).map C3++[C3 bl[k]]:=by rw [L06 hlt];simp only [L14,L04,L36]
  obtain ⟨b,hb⟩:∃b,b=bl[k]:=⟨_,rfl⟩
  rw [←hb] at hv hbB hst
  have hsp:=J18 b (by omega)
  rw [F62 hbB.2] at hsp
  dsimp only at hsp
  refine k5 (k1 (k2 (k3 (k2 ?_))))
  refine A4 (A3 (B9 Z (.pure _ _ _ _) Z (by omega) hv) Z (A3 (C8 Z Z) Z (A3 (A6 Z Z) Z (A7 ?_))))
  refine k1 (k2 ?_)
  refine A4 (A3 (A5 Z Z) Z (C1 (hsp) Z Z Z ?_));rintro _ rfl;refine A3 (A5 Z Z) Z (A3 (B3 Z Z) Z (A3 (B3 Z Z) Z (A3 (A6 Z Z) Z (A3 (A6 Z Z) Z (A7 ?_)))))
  refine k1 (k2 (k2 ?_))
  refine A4 (A3 (A5 Z Z) Z (A3 (O6 Z Z) Z (A7 ?_)))
  refine k1 ?_
  refine B4 rfl (fun ht=>?_) (fun ht=>?_)
  ·cases ht
  refine k5 (k1 ?_)
  refine A4 (A3 (A5 Z Z) Z (A3 (A5 Z Z) Z (A3 (E4 (c:=strsC) (ys:=[C3 b]) (F3 Z Z Z Z I6) Z Z Z) Z (C7 (L0 Z Z Z (.pure _ _ _ _) (by (rw [hml];simp only [K99,L02];omega)) Z) Z ?_))));refine A3 (A6 Z Z) Z (A7 ?_)
  refine k4 (k1 ?_)
  refine A4 (A3 (C6 Z Z (by omega)) Z (A3 (A5 Z Z) Z (A7 ?_)))
  refine k1 ?_
  refine ⟨k+1,by omega,by omega,?_⟩
  rw [hst]
  exact K60 ⟨le1 rfl,le1 rfl,le1 rfl,le1 rfl,le1 rfl,le1 rfl,trivial⟩ ⟨rfl,rfl,trivial⟩
 have hkl:k=bl.length:=by have:=A1 ht;omega
 rw [hkl,L27,←hfsb]
 have hI:=G50 fs (by omega) (by omega)
 have hN:=E61 fs (by omega) (by omega)
 rw [←hnames,←hids] at hI
 rw [←hnames] at hN
 refine k6 (k2 ?_)
 refine A4 (A3 (A5 Z Z) Z (C1 (hI) Z Z Z ?_));rintro _ rfl;refine A3 (A6 Z Z) Z (A7 ?_)
 refine E8 (fr':=[(4,.s (.one (.ref 4 0))),(6,C0 n),(7,D2 (List Str) 1 strsC fs),(12,D2 (List Int) 1 intsC ids)]) (ob':=[(4,y7)]) (K60 ⟨le1 rfl,le1 rfl,leL rfl,le1 rfl,trivial⟩ ⟨rfl,trivial⟩) ?_
 refine k2 ?_
 refine O2 [13,9] [[],[9],[13,9]] [(9,([731],[])),(13,([730],[]))] [(0,[]),(1,[]),(2,[]),(3,[]),(4,[]),(5,[]),(6,[]),(7,[]),(8,[]),(9,[]),(10,[]),(11,[]),(12,[9]),(13,[9]),(14,[13,9])] [(0,[9]),(1,[9]),(2,[9]),(3,[9]),(4,[9]),(10,[9]),(11,[9])] (by kernel_rfl) (by kernel_rfl) (D6 Z Z (by kernel_rfl) Z Z (A5 Z Z) (D6 Z Z (by kernel_rfl) Z Z (K9 (hN) Z Z) (D6 Z Z (by kernel_rfl) Z Z (A5 Z Z) (D6 Z Z (by kernel_rfl) Z Z (B9 Z (.pure _ _ _ _) Z (by omega) hv0) (D6 Z Z (by kernel_rfl) Z Z (C8 Z Z) (D6 Z Z (by kernel_rfl) Z Z (A5 Z Z) (D6 Z Z (by kernel_rfl) Z Z (B9 Z (.pure _ _ _ _) Z (by omega) hv0) (D6 Z Z (by kernel_rfl) Z Z (C8 Z Z) (D6 Z Z (by kernel_rfl) Z Z (F1 Z (.pure _ _ _ _)) (V6 Z Z (by kernel_rfl) Z Z (E16 (fun frc hU hk=>m9 731 Int C68 0 (T5 hU Z) (T5 hU Z) (by omega) (by omega) (fun _=>by first | exact ⟨⟨rfl,rfl⟩,trivial⟩ | exact ⟨N8 _ _ _,trivial⟩) (by rw [hk];rfl))) Z ?_))))))))));refine D6 Z Z (by kernel_rfl) Z Z (A5 Z Z) (D6 Z Z (by kernel_rfl) Z Z (G4 Z) (D6 Z Z (by kernel_rfl) Z Z (G4 Z) (V6 Z Z (by kernel_rfl) Z Z (E16 (fun frc hU hk=>R1 730 (T5 hU Z) Z (by rw [hk];rfl))) Z ?_)));refine D6 Z Z (by kernel_rfl) Z Z (A6 Z Z) ?_;refine C81 (by kernel_rfl) rfl ?_ ?_
 ·refine K6 Z Z (by kernel_rfl) Z Z (A5 Z Z) (K6 Z Z (by kernel_rfl) Z Z (K9 (hN) Z Z) (K6 Z Z (by kernel_rfl) Z Z (A5 Z Z) (K6 Z Z (by kernel_rfl) Z Z (B9 Z (.pure _ _ _ _) Z (by omega) hv0) (K6 Z Z (by kernel_rfl) Z Z (C8 Z Z) (K6 Z Z (by kernel_rfl) Z Z (A5 Z Z) (K6 Z Z (by kernel_rfl) Z Z (G4 Z) ?_))))));exact C14
 rw [L01]
 refine k1 (k2 (k2 ?_))
 refine E8 (K75 732 (List (List Int)) 1 intssC 114 (kb:=730) (o:=3) Z Z Z) ?_
 refine E8 (K94 732 Z) ?_
 refine A4 (A3 (A5 Z Z) Z (A3 (B9 Z (.pure _ _ _ _) Z (by omega) hv0) Z (A3 (C8 Z Z) Z (A3 (F1 Z (.pure _ _ _ _)) Z (A3 (C6 Z Z (by omega)) Z (A3 (A5 Z Z) Z (A7 ?_)))))))
 refine k1 (k3 ?_)
 refine E1 (X:=Nat) (fun k=>([(4,.s (.one (.ref 4 0))),(6,C0 n),(12,D2 (List Int) 1 intsC ids),(13,.s (.one (.ref 730 0))),(69,C0 ((base.length:Int)+1)),(70,C0 k)],I83 names base (List.replicate base.length 0) n k++L7 intsC (G52 n) (List.range k))) (fun k=>k≤base.length+1) (fun k=>base.length+1 - k) 0 (Nat.zero_le _) (K60 ⟨le1 rfl,le1 rfl,le1 rfl,le1 rfl,le1 rfl,le1 rfl,trivial⟩ ⟨rfl,rfl,rfl,rfl,trivial⟩) ?_
 intro k hk
 dsimp only at hk ⊢
 refine k2 ?_
 refine A4 (A3 (E6 Z Z) Z (A7 ?_))
 refine k1 (k2 ?_)
 refine B4 rfl (fun ht=>?_) (fun ht=>?_)
 ·have hlt:k < base.length+1:=by have:=A0 ht;omega
  have hfree:=E62 734 names base (List.replicate base.length 0) n k (by omega) (by omega) (by omega) (by omega) (by omega) (G52 n)
  have hfree5:H7 735 ((734,.arr (List Int) 1 intsC (List.replicate n []))::(I83 names base (List.replicate base.length 0) n k++L7 intsC (G52 n) (List.range k)))=true:=by
   have:=E62 735 names base (List.replicate base.length 0) n k (by omega) (by omega) (by omega) (by omega) (by omega) (G52 n)
   rw [H7,this];rfl
  have h732:(R8 k++[TC.mut 734]).map (TC.forget 732)=R8 k++[TC.mut 734]:=m8 (by rw [L45,B56 (by omega)];rfl)
  refine k5 (k1 (k2 (k3 ?_)))
  refine O2 [11,8,7,6] [[],[6],[7,6],[8,7,6],[11,8,7,6]] [(6,([734],[])),(7,([735],[])),(8,([732],[76])),(11,([],[]))] [(0,[]),(1,[]),(2,[]),(3,[]),(4,[]),(5,[]),(6,[]),(7,[6]),(8,[7,6]),(9,[8,7,6]),(10,[8,7,6]),(11,[8,7,6])] [(0,[6]),(0,[7,6]),(0,[8,7,6]),(1,[6]),(1,[7,6]),(2,[6]),(2,[7,6]),(3,[6]),(3,[7,6]),(4,[6]),(4,[7,6])] (by kernel_rfl) (by kernel_rfl) (D6 Z Z (by kernel_rfl) Z Z (A5 Z Z) (D6 Z Z (by kernel_rfl) Z Z (A5 Z Z) (D6 Z Z (by kernel_rfl) Z Z (B2 Z) (D6 Z Z (by kernel_rfl) Z Z (A8 Z) (D6 Z Z (by kernel_rfl) Z Z (A9 Z Z Z) (D6 Z Z (by kernel_rfl) Z Z (A5 Z Z) (V6 Z Z (by kernel_rfl) Z Z (E16 (fun frc hU hk=>m9 734 (List Int) intsC [] (T5 hU Z) (T5 hU Z) (by omega) (by omega) (fun _=>by first | exact ⟨⟨rfl,rfl⟩,trivial⟩ | exact ⟨N8 _ _ _,trivial⟩) (by rw [hk];exact hfree))) Z ?_)))))));refine V6 Z Z (by kernel_rfl) Z Z (E16 (fun frc hU hk=>J96 735 (T5 hU Z) Z Z Z Z (by rw [hk];exact hfree5))) Z ?_;refine V6 Z Z (by kernel_rfl) Z Z (A97 (fun frc hU=>G47 (T5 hU Z) Z (T5 hU Z) Z (by omega) Z)) Z (D6 Z Z (by kernel_rfl) Z Z (B2 Z) (D6 Z Z (by kernel_rfl) Z Z (A8 Z) (V6 Z Z (by kernel_rfl) Z Z (C82 (fun frc hU=>B7 TySz.out (T5 hU Z) Z (T5 hU Z) Z Z Z)) Z ?_)));refine C81 (by kernel_rfl) rfl ?_ ?_
  ·refine K6 Z Z (by kernel_rfl) Z Z (A5 Z Z) (K6 Z Z (by kernel_rfl) Z Z (A5 Z Z) (K6 Z Z (by kernel_rfl) Z Z (A5 Z Z) (K6 Z Z (by kernel_rfl) Z Z (A5 Z Z) (K6 Z Z (by kernel_rfl) Z Z (A5 Z Z) (K6 Z Z (by kernel_rfl) Z Z (B2 Z) (K6 Z Z (by kernel_rfl) Z Z (B2 Z) (K6 Z Z (by kernel_rfl) Z Z (A8 Z) (K6 Z Z (by kernel_rfl) Z Z (A8 Z) (K6 Z Z (by kernel_rfl) Z Z (A9 Z Z Z) (K6 Z Z (by kernel_rfl) Z Z (A9 Z Z Z) ?_))))))))));exact C14
  refine K4 [(4,.s (.one (.ref 4 0))),(6,C0 n),(12,D2 (List Int) 1 intsC ids),(13,.s (.one (.ref 730 0))),(69,C0 ((base.length:Int)+1)),(70,C0 k)] ([(4,y7),(730,c6 names base n),(731,.arr Int 1 C68 (List.replicate base.length 0)),(732,.growT 114 (k+1) 1 (R8 k++[TC.mut 734])),(734,.arr (List Int) 1 intsC (List.replicate n [])),(735,.tarr 1 1 [.mut 734])]++L7 intsC (G52 n) (List.range k)) (K70 ⟨le1 rfl,le1 rfl,le1 rfl,le1 rfl,le1 rfl,le1 rfl,trivial⟩ (B90 (L:=[(4,_),(730,_),(731,_),(732,_),(734,_),(735,_)]) ⟨rfl,rfl,rfl,congrArg (fun ts=>some (Ob.growT 114 (k+1) 1 ts)) h732,rfl,rfl,trivial⟩ (by repeat (first | exact gap_fgt | refine B50 rfl ?_)))) ?_
  refine E8 (J23 (by omega) (by simp only [G3,SV.free,S1.free,TC.free,I0 (show 4≠k+1000 by omega),I0 (show 730≠k+1000 by omega)];rfl)) ?_
  skip
  refine A4 (A3 (C6 Z Z (by omega)) Z (A3 (A5 Z Z) Z (A7 ?_)))
  refine k1 ?_
  refine ⟨k+1,by omega,by omega,?_⟩
  exact K70 ⟨le1 rfl,le1 rfl,le1 rfl,le1 rfl,le1 rfl,le1 rfl,trivial⟩ (fun _ _ h=>h)
 have hkb:k=base.length+1:=by have:=A1 ht;omega
 rw [hkb]
 refine K4 [(4,.s (.one (.ref 4 0))),(6,C0 n),(12,D2 (List Int) 1 intsC ids),(13,.s (.one (.ref 730 0)))] (B55 names base (List.replicate base.length 0) (G52 n) n (base.length+1)) (K70 ⟨le1 rfl,le1 rfl,le1 rfl,le1 rfl,trivial⟩ (fun _ _ h=>h)) ?_
 refine k6 (k2 (k2 ?_))
 refine A4 (A3 (A5 Z Z) Z (A3 (A5 Z Z) Z (A7 ?_)))
 refine k1 (k3 ?_)
 obtain ⟨s,hs⟩:∃s:Nat→Loom,s=fun p=>x2 ids base.length n p:=⟨_,rfl⟩
 have hsp:∀p,p≤32→s p=W9 ids base.length n p∧(s p).1.length=base.length∧∀k,((s p).2 k).length=n:=fun p hp=>by
  obtain ⟨q1,_,q3⟩:=hsame p hp
  rw [hs]
  dsimp only
  refine ⟨q1,q3,fun k=>?_⟩
  rw [q1]
  exact ((hok p).gaps k).1
 refine E1 (X:=Nat) (fun p=>([(4,.s (.one (.ref 4 0))),(6,C0 n),(12,D2 (List Int) 1 intsC ids),(13,.s (.one (.ref 730 0))),(84,C0 n),(85,C0 p)],B55 names base (s p).1 (s p).2 n (base.length+1))) (fun p=>p≤n) (fun p=>n - p) 0 (Nat.zero_le _) (by rw [hs];exact K70 ⟨le1 rfl,le1 rfl,le1 rfl,le1 rfl,le1 rfl,le1 rfl,trivial⟩ (fun _ _ h=>h)) ?_
 intro p hp
 dsimp only at hp ⊢
 obtain ⟨p1,p2,p3⟩:=hsp p (by omega)
 refine k2 ?_
 refine A4 (A3 (E6 Z Z) Z (A7 ?_))
 refine k1 (k2 ?_)
 refine B4 rfl (fun ht=>?_) (fun ht=>?_)
 ·have hlt:p < n:=by have:=A0 ht;omega
  have hv1:ids[((p:Int)+1).toNat]?=some (ids.getD (p+1) []):=by rw [show ((p:Int)+1).toNat=p+1 by omega,L00,K97 (by omega)];rfl
  have hfB:=(hidB _ (L13 hv1)).1
  have hst:s (p+1)=z7 ids (s p) p:=by rw [hs];exact B72 ids base.length n p
  obtain ⟨file,hfile⟩:∃f,f=ids.getD (p+1) []:=⟨_,rfl⟩
  have hst2:s (p+1)=((N6 file base).foldl (M8 p) (s p).1,(N6 file base).foldl (P1 p file) (s p).2):=by rw [hst,hfile,hb0];rfl
  rw [←hfile] at hv1 hfB
  refine k5 (k1 (k2 (k3 (k2 ?_))))
  refine A4 (A3 (A5 Z Z) Z (A3 (A6 Z Z) Z (A7 ?_)))
  refine k1 (k2 ?_)
  refine A4 (A3 (A5 Z Z) Z (A3 (A5 Z Z) Z (A3 (A5 Z Z) Z (A3 (A5 Z Z) Z (A3 (C6 Z Z (by omega)) Z (A3 (B9 Z (.pure _ _ _ _) Z (by omega) hv1) Z (A3 (C8 Z Z) Z (T3 (K01 names base file (s p).1 (s p).2 n p (by omega) (by omega) p2 (by omega) hlt p3) Z Z Z ?_))))))));rintro _ _ ⟨rfl,rfl⟩;refine A3 (A6 Z Z) Z (A7 ?_)
  refine k1 (k2 ?_)
  refine A4 (A3 (A5 Z Z) Z (A3 (O6 Z Z) Z (A7 ?_)))
  refine k1 ?_
  refine B4 rfl (fun ht=>?_) (fun ht=>?_)
  ·cases ht
  refine k5 (k4 (k1 ?_))
  refine A4 (A3 (C6 Z Z (by omega)) Z (A3 (A5 Z Z) Z (A7 ?_)))
  refine k1 ?_
  refine ⟨p+1,by omega,by omega,?_⟩
  rw [hst2]
  exact K70 ⟨le1 rfl,le1 rfl,le1 rfl,le1 rfl,le1 rfl,le1 rfl,trivial⟩ (fun _ _ h=>h)
 have hpn:p=n:=by have:=A1 ht;omega
 subst hpn
 obtain ⟨ms,hms⟩:∃ms,ms=(s p).1:=⟨_,rfl⟩
 obtain ⟨g,hg⟩:∃g,g=(s p).2:=⟨_,rfl⟩
 have hpair:W9 ids base.length p p=(ms,g):=by rw [←p1,hms,hg]
 rw [←hms,←hg]
 rw [←hms] at p2
 have hgk:=fun k=>(hok p).gaps k
 rw [hpair] at hgk ⊢
 dsimp only at hgk
 refine K4 [(4,.s (.one (.ref 4 0))),(6,C0 p),(13,.s (.one (.ref 730 0)))] ([(4,y7),(730,c6 names base p),(731,.arr Int 1 C68 ms)]++((732,.growT 114 (base.length+1) 1 (O1 intsC (base.length+1) 0 g))::L7 intsC g (List.range (base.length+1)))) (by rw [←I14];exact K70 ⟨le1 rfl,le1 rfl,le1 rfl,trivial⟩ (fun _ _ h=>h)) ?_
 refine E8 (K79 (by omega) rfl rfl (fun r _=>?_) (fun r _=>?_)) ?_
 ·simp only [G3,SV.free,S1.free,TC.free,I0 (show 4≠r+1000 by omega),I0 (show 730≠r+1000 by omega)];rfl
 ·simp only [B88,Ob.free,List.all_cons,List.all_nil,TC.free,I0 (show 731≠r+1000 by omega),I0 (show 732≠r+1000 by omega)];rfl
 obtain ⟨gs,hgs⟩:∃gs,gs=(List.range (base.length+1)).map g:=⟨_,rfl⟩
 rw [←hgs]
 refine E8 (Sees.freeze (k:=731) Z) ?_
 refine E8 (Sees.freezeG (k:=732) Z Z) ?_
 refine K4 [(4,.s (.one (.ref 4 0))),(6,C0 p),(13,.s (.one (.ref 730 0)))] [(4,y7),(730,.box [.p (.list Str 1 M1 names),.p (.list Int 1 G6 base),.p (.list Int 1 C68 ms),.p (.list (List (List Int)) 1 intssC gs),.p (.v (.int .i64 p)),.p (.v (.slice none 0 0))])] (K60 ⟨le1 rfl,le1 rfl,le1 rfl,trivial⟩ ⟨rfl,rfl,trivial⟩) ?_
 refine E8 (K69 733 Row 3 rowC 69 (kb:=730) (o:=5) Z Z Z) ?_
 refine K4 [(4,.s (.one (.ref 4 0))),(6,C0 p),(13,.s (.one (.ref 730 0)))] (A33 names base ms gs p []) (K60 ⟨le1 rfl,le1 rfl,le1 rfl,trivial⟩ ⟨rfl,rfl,rfl,trivial⟩) ?_
 have hnm:∀k,k < f0.length→0≤base.getD k 0∧names[(base.getD k 0).toNat]?=some (f0.getD k []):=by
  intro k hk
  have hm:f0[k]∈names:=by rw [hnames];exact B63 fs _ f0 (by rw [hfs,hf0];simp) (L15 hk)
  have e1:base.getD k 0=I7 names f0[k] 0:=by rw [hbase,L00];unfold O9;rw [L30,K97 hk];rfl
  have e2:f0.getD k []=f0[k]:=by rw [L00,K97 hk];rfl
  have e3:=B07 names f0[k] 0 (Int.le_refl _) hm
  have e4:=I13 names f0[k] 0 (Int.le_refl _) hm
  rw [e1,e2]
  rw [Int.sub_zero] at e4
  exact ⟨e3.1,e4⟩
 have hW:=fun gf=>I12 (gf:=gf) names f0 base ms g p B (by omega) hbl (by omega) (by omega) hnB hgk hnm
 rw [hbl] at hgs
 rw [←hgs] at hW
 refine k6 (k2 (k2 ?_))
 refine A4 (A3 (A5 Z Z) Z (T3 (hW _) Z Z Z ?_));rintro _ _ ⟨rfl,rfl⟩;refine A3 (A6 Z Z) Z (A7 ?_)
 refine k1 (k2 ?_)
 refine A4 (A3 (A5 Z Z) Z (A3 (O6 Z Z) Z (A7 ?_)))
 refine k1 ?_
 refine B4 rfl (fun ht=>?_) (fun ht=>?_)
 ·cases ht
 refine k5 (k1 (k2 ?_))
 refine A4 (A3 (A5 Z Z) Z (A3 (B2 Z) Z (A3 (A8 Z) Z (A3 (D5 Z Z Z) Z (E5 (B7 TySz.out Z Z Z Z Z Z) (A3 (A6 Z Z) Z (A7 ?_)))))))
 refine k1 (k10 ?_)
 exact B8 (rs:=[pTable ⟨p,X0 names f0 (ms,g) (f0.length+1)⟩,F2 0]) (U0 rfl rfl rfl rfl rfl rfl rfl) rfl
abbrev bS (b:Bool):S1:=.one (.p (.v (.bool b)))
abbrev iS (i:Int):S1:=.one (.p (.v (.int .i64 i)))
theorem J24 (r:Row):FnOk Tryz.prog 265 [pRow r] (fun rs=>rs=[E3 (x6 r)]):=by
 refine FnOk.intro Tryz.func265 (by decide) Z Z Z Z ?_
 refine k2 ?_
 refine A4 (C7 (R1 1 Z Z Z) Z (A3 (A6 Z Z) Z (A7 ?_)))
 refine k1 (k2 ?_)
 refine A4 (A3 (A8 Z) Z (A3 (A9 Z Z Z) Z (A3 (F0 Z) Z (A3 (A5 Z Z) Z (B0 Z Z Z Z (fun hg=>by rw [hg];exact A8 Z) ?_)))));refine B0 Z Z Z Z (fun hg=>by rw [hg];exact A9 Z Z Z) ?_;refine B0 Z Z Z Z (fun hg=>by rw [hg];exact I1 Z Z) ?_;refine A3 (B5 Z (fun h=>by first | rfl | (rw [h];rfl)) (fun h=>by first | rfl | (rw [h];rfl))) Z ?_;refine A3 (A6 Z Z) Z (A7 ?_)
 refine k1 (k10 ?_)
 refine B8 (I2 Z Z Z) ?_
 unfold x6
 cases r.Lost<;>simp
set_option maxHeartbeats 1000000
theorem obs_ff {q:Nat} {x y:Ob} {ob:Obs} (hf1:Obs.forget q ob=ob):∀k o,C2 ((q,x)::ob) k=some o→C2 ((q,x)::Obs.forget q ((q,y)::ob)) k=some o:=by
 intro k o h
 by_cases e:q=k
 ·subst e;rw [C9] at h ⊢;exact h
 ·rw [B6 e] at h ⊢
  show C2 ((q,_)::Obs.forget q ob) k=some o
  rw [B6 e,hf1];exact h
def Answers (P:Program) (f:FuncId) (c:Nat) (o0:Ob) (l:List Bool):Prop :=
 ∀(gf:Fr) (ob:Obs),C2 ob c=some o0→∀i:Nat,i < l.length→AL.Met P f [iS i,.one (.ref c 0)] gf ob [] (fun rs ob'=>rs=[bS (l.getD i false)]∧ob'=ob)
theorem E63 {gf:Fr} {ob:Obs} (l:List Bool) (f:FuncId) (c:Nat) (o0:Ob) (hl:l.length≤536870912) (hf0:H7 750 ob=true) (hc750:750≠c) (hc:C2 ob c=some o0) (hf:Answers Tryz.prog f c o0 l) :
  AL.Met Tryz.prog 178 [iS l.length,.one (.clo f [] [(c,0)])] gf ob [750] (fun rs ob'=>rs=[.one (.mut 750)]∧ob'=(750,.grow 95 Span 2 spanC (X6 l))::ob):=by
 obtain ⟨hf1,hf2,_⟩:=P8 hf0
 obtain ⟨W,hW⟩:∃W,W=X6 l:=⟨_,rfl⟩
 rw [←hW]
 refine AL.Met.introH Tryz.func178 (by decide) rfl rfl rfl (fun hH=>?_)
 refine k2 ?_
 refine A4 (A3 (A6 Z Z) Z (A7 ?_))
 refine k1 (k2 ?_)
 refine A4 (C7 (H12 750 _ spanC hf2 Z) Z (A7 ?_))
 rw [hf1]
 refine k1 (k2 (k2 ?_))
 refine A4 (A3 (A5 Z Z) Z (A3 (A5 Z Z) Z (A7 ?_)))
 refine k1 (k3 ?_)
 refine E1 (X:=Nat × List Span) (fun x=>([(1,.s (.one (.clo f [] [(c,0)]))),(5,.s (.one (.mut 750))),(7,C0 l.length),(8,C0 x.1)]++E0 [750] gf,(750,.grow 95 Span 2 spanC x.2)::ob)) (fun x=>x.1≤l.length∧C58 x.1 x.2∧(E01 l x.1=true→x.2≠[])∧W=D16 (l.drop x.1) x.1 (E01 l x.1) x.2) (fun x=>l.length - x.1) (0,[]) ⟨Nat.zero_le _,⟨Nat.le_refl _,(fun s hs=>by cases hs)⟩,(fun h=>by cases h),hW⟩ ?_ ?_
 ·exact K61 ⟨leE rfl (by simp [SV.forget,S1.forget,TC.forget,A88,I0 (Ne.symm hc750)]),le1 rfl,le1 rfl,le1 rfl,trivial⟩ (J5 hH) (by repeat (first | exact C5 | refine tail_cons rfl ?_ | refine D3 _ ?_)) (fun _ _ h=>h)
 rintro ⟨i,out⟩ ⟨hi,hin,hne,hp⟩
 dsimp only at hi hin hne hp ⊢
 have hcn:C2 ((750,.grow 95 Span 2 spanC out)::ob) c=some o0:=(B6 hc750 _ _).trans hc
 have hfi:=fun gf (i:Nat) (h:i < l.length)=>hf gf _ hcn i h
 refine k2 ?_
 refine A4 (A3 (E6 Z Z) Z (A7 ?_))
 refine k1 (k2 ?_)
 refine B4 rfl (fun ht=>?_) (fun ht=>?_)
 rotate_left
 ·have hil:i=l.length:=by have:=A1 ht;omega
  rw [hil,L07 (Nat.le_refl _)] at hp
  have hp:W=out:=hp
  refine k6 (k2 ?_)
  refine A4 (A3 (A5 Z Z) Z (A3 (A6 Z Z) Z (A7 ?_)))
  refine k1 (k10 ?_)
  rw [hp]
  exact G8 (R6 rfl rfl) (by repeat (first | exact C5 | refine tail_cons rfl ?_)) (fun _ _ h=>h) ⟨rfl,rfl⟩
 have hlt:i < l.length:=by have:=A0 ht;omega
 rw [J78 hlt] at hp
 have hpn:E01 l (i+1)=l.getD i false:=by unfold E01;rw [if_neg (by omega)];rfl
 have hst:=J03 (l.getD i false) (E01 l i) hin
 rw [←hpn] at hp hst
 have hcall:=fun gf=>hfi gf i hlt
 have hlen:=hin.1
 have hi0:E01 l i=if i=0 then false else l.getD (i - 1) false:=rfl
 rw [←hpn] at hcall
 obtain ⟨b,hb⟩:∃b,b=E01 l (i+1):=⟨_,rfl⟩
 rw [←hb] at hp hst hcall
 refine k5 (k1 (k2 (k3 (k2 ?_))))
 refine A4 (A3 (A5 Z Z) Z (A3 (A6 Z Z) Z (A7 ?_)))
 refine k1 (k3 (k2 ?_))
 cases b with
 | false =>
  rw [if_neg (by decide)] at hp hst
  refine A4 (A3 (A5 Z Z) Z (A3 (A5 Z Z) Z (A64 (hcall _) Z Z Z Z ?_)));rintro _ _ ⟨rfl,rfl⟩;refine A3 (F0 Z) Z (A3 (A6 Z Z) Z (A7 ?_))
  refine k1 ?_
  refine B4 rfl (fun ht=>?_) (fun ht=>?_)
  ·refine k5 (k4 (k4 (k1 ?_)))
   refine A4 (A3 (C6 Z Z (by omega)) Z (A3 (A5 Z Z) Z (A7 ?_)))
   refine k1 ?_
   exact ⟨(i+1,out),⟨by dsimp only;omega,hst,(fun h=>by rw [←hb] at h;cases h),by rw [←hb];exact hp⟩,by dsimp only;omega,K61 ⟨le1 rfl,le1 rfl,le1 rfl,le1 rfl,trivial⟩ (J5 hH) (by repeat (first | exact C5 | refine tail_cons rfl ?_)) (fun _ _ h=>h)⟩
  ·cases ht
 | true =>
  rw [if_pos rfl] at hp hst
  refine A4 (A3 (A5 Z Z) Z (A3 (A5 Z Z) Z (A64 (hcall _) Z Z Z Z ?_)));rintro _ _ ⟨rfl,rfl⟩;refine A3 (F0 Z) Z (A3 (A6 Z Z) Z (A7 ?_))
  refine k1 ?_
  refine B4 rfl (fun ht=>?_) (fun ht=>?_)
  ·cases ht
  refine k2 ?_
  by_cases hi1:i=0
  ·subst hi1
   rw [hi0,if_pos rfl,if_neg (by decide),A25] at hp
   rw [hi0,if_pos rfl,if_neg (by decide),A25] at hst
   have h0:decide (((0:Nat):Int) > 0)=false:=by decide
   refine A4 (A3 (A5 Z Z) Z (A3 (R5 Z Z) Z (A3 (A5 Z Z) Z (T9 Z Z Z (by decide) Z (T9 Z Z Z (by decide) Z (T9 Z Z Z (by decide) Z (T9 Z Z Z (by decide) Z (A3 (C75 Z (h0) Z) Z (A3 (A6 Z Z) Z (A7 ?_))))))))))
   refine k1 ?_
   refine B4 rfl (fun ht=>?_) (fun ht=>?_)
   ·cases ht
   skip
   refine A4 (A3 (A5 Z Z) Z (A3 (A5 Z Z) Z (A3 (A5 Z Z) Z (A3 (C6 Z Z (by omega)) Z (A3 (G4 Z) Z (A3 (E4 (c:=spanC) (ys:=[⟨((0:Nat):Int),((0:Nat):Int)+1⟩]) (F3 Z Z Z Z I6) Z Z Z) Z (C7 (v6 Z Z Z (.pure _ _ _ _) (by (simp only [K99,L02];omega)) Z) Z (A3 (A6 Z Z) Z (A7 ?_)))))))))
   refine k4 (k4 (k1 ?_))
   refine A4 (A3 (C6 Z Z (by omega)) Z (A3 (A5 Z Z) Z (A7 ?_)))
   refine k1 ?_
   refine ⟨(0+1,out++[⟨((0:Nat):Int),((0:Nat):Int)+1⟩]),⟨by dsimp only;omega,hst,(fun _=>by simp),by rw [←hb];exact hp⟩,by dsimp only;omega,?_⟩
   exact K61 ⟨leE rfl (by simp [SV.forget,S1.forget,TC.forget,A88,I0 (Ne.symm hc750)]),le1 rfl,le1 rfl,le1 rfl,trivial⟩ (J5 hH) (by repeat (first | exact C5 | refine tail_cons rfl ?_ | refine A16 _ rfl ?_)) (obs_ff hf1)
  rw [if_neg hi1] at hi0
  have h0:decide ((i:Int) > 0)=true:=decide_eq_true (by omega)
  have hcall2:=fun gf=>hfi gf (i - 1) (by omega)
  rw [←hi0,show ((i - 1:Nat):Int)=(i:Int) - 1 by omega] at hcall2
  cases hq:E01 l i with
  | false =>
   rw [hq] at hcall2
   rw [hq,if_neg (by decide),A25] at hp hst
   refine A4 (A3 (A5 Z Z) Z (A3 (R5 Z Z) Z (A3 (A5 Z Z) Z (X1 Z Z Z h0 (A3 (A5 Z Z) Z (X1 Z Z Z h0 (A3 (A5 Z Z) Z (X1 Z Z Z h0 (A3 (Q4 Z Z (by omega)) Z (X1 Z Z Z h0 (A64 (hcall2 _) Z Z Z Z ?_)))))))))));rintro _ _ ⟨rfl,rfl⟩;refine A3 (B5 Z (fun h=>by first | rfl | (rw [h];rfl)) (fun h=>by first | rfl | (rw [h];rfl))) Z ?_;refine A3 (A6 Z Z) Z (A7 ?_)
   refine k1 ?_
   refine B4 rfl (fun ht=>?_) (fun ht=>?_)
   ·rw [if_pos h0] at ht;cases ht
   skip
   refine A4 (A3 (A5 Z Z) Z (A3 (A5 Z Z) Z (A3 (A5 Z Z) Z (A3 (C6 Z Z (by omega)) Z (A3 (G4 Z) Z (A3 (E4 (c:=spanC) (ys:=[⟨(i:Int),(i:Int)+1⟩]) (F3 Z Z Z Z I6) Z Z Z) Z (C7 (v6 Z Z Z (.pure _ _ _ _) (by (simp only [K99,L02];omega)) Z) Z (A3 (A6 Z Z) Z (A7 ?_)))))))))
   refine k4 (k4 (k1 ?_))
   refine A4 (A3 (C6 Z Z (by omega)) Z (A3 (A5 Z Z) Z (A7 ?_)))
   refine k1 ?_
   refine ⟨(i+1,out++[⟨(i:Int),(i:Int)+1⟩]),⟨by dsimp only;omega,hst,(fun _=>by simp),by rw [←hb];exact hp⟩,by dsimp only;omega,?_⟩
   exact K61 ⟨leE rfl (by simp [SV.forget,S1.forget,TC.forget,A88,I0 (Ne.symm hc750)]),le1 rfl,le1 rfl,le1 rfl,trivial⟩ (J5 hH) (by repeat (first | exact C5 | refine tail_cons rfl ?_ | refine A16 _ rfl ?_)) (obs_ff hf1)
  | true =>
   rw [hq] at hcall2
   rw [hq,if_pos rfl] at hp hst
   have hne:=hne hq
   obtain ⟨s,hs⟩:∃s,out.getLast?=some s:=⟨_,List.getLast?_eq_some_getLast hne⟩
   have hq1:=List.length_pos_iff.2 hne
   have hv2:out[((out.length:Int) - 1).toNat]?=some s:=by
    rw [show ((out.length:Int) - 1).toNat=out.length - 1 by omega,←List.getLast?_eq_getElem?];exact hs
   have hset:out.set (((out.length:Int) - 1).toNat) ⟨s.From,(i:Int)+1⟩=A00 out ((i:Int)+1):=by
    rw [show ((out.length:Int) - 1).toNat=out.length - 1 by omega]
    unfold A00
    rw [hs]
    dsimp only
    have hd:=List.dropLast_concat_getLast hne
    conv=>lhs;rw [←hd]
    rw [List.set_append_right _ _ (by rw [List.length_dropLast,K96,List.length_dropLast];simp)]
    simp
   refine A4 (A3 (A5 Z Z) Z (A3 (R5 Z Z) Z (A3 (A5 Z Z) Z (X1 Z Z Z h0 (A3 (A5 Z Z) Z (X1 Z Z Z h0 (A3 (A5 Z Z) Z (X1 Z Z Z h0 (A3 (Q4 Z Z (by omega)) Z (X1 Z Z Z h0 (A64 (hcall2 _) Z Z Z Z ?_)))))))))));rintro _ _ ⟨rfl,rfl⟩;refine A3 (B5 Z (fun h=>by first | rfl | (rw [h];rfl)) (fun h=>by first | rfl | (rw [h];rfl))) Z ?_;refine A3 (A6 Z Z) Z (A7 ?_)
   refine k1 ?_
   refine B4 rfl (fun ht=>?_) (fun ht=>?_)
   rotate_left
   ·rw [if_pos h0] at ht;cases ht
   skip
   refine A4 (A3 (A5 Z Z) Z (A3 (A5 Z Z) Z (A3 (C72 Z Z) Z (A3 (Q4 Z Z (by omega)) Z (A3 (A5 Z Z) Z (A3 (C6 Z Z (by omega)) Z (A3 (C10 Z Z Z (by omega) (by omega)) Z (A3 (M6 Z) Z (E5 (F71 ((⟨s.From,(i:Int)+1⟩:Span)) TySz.out Z Z hv2 Z Z Z Z (fun _ _ _ h=>E38 h) (by intro j h1 h2;rcases j with _ | _ | _ | _ | _ | _ | _ | j<;>first | rfl | omega)) ?_)))))))));refine A7 ?_
   rw [hset]
   refine k4 (k4 (k1 ?_))
   refine A4 (A3 (C6 Z Z (by omega)) Z (A3 (A5 Z Z) Z (A7 ?_)))
   refine k1 ?_
   refine ⟨(i+1,A00 out ((i:Int)+1)),⟨by dsimp only;omega,hst,(fun _=>?_),by rw [←hb];exact hp⟩,by dsimp only;omega,?_⟩
   ·unfold A00;rw [hs];simp
   ·exact K61 ⟨le1 rfl,le1 rfl,le1 rfl,le1 rfl,trivial⟩ (J5 hH) (by repeat (first | exact C5 | refine tail_cons rfl ?_)) I82
theorem I16 {gf:Fr} {ob:Obs} (t:Table) (i:Nat) (hi:i < t.Rows.length) (h1:C2 ob 1=some (.box (pTable t).s1.cells)) :
  AL.Met Tryz.prog 264 [iS i,.one (.ref 1 0)] gf ob [] (fun rs ob'=>rs=[bS (!x6 t.Rows[i])]∧ob'=ob):=by
 have hv:t.Rows[((i:Nat):Int).toNat]?=some t.Rows[i]:=by rw [L01];simp [hi]
 obtain ⟨r,hr⟩:∃r,r=t.Rows[i]:=⟨_,rfl⟩
 rw [←hr] at hv ⊢
 refine AL.Met.intro Tryz.func264 (by decide) Z Z Z ?_
 refine k2 ?_
 refine A4 (A3 (A6 Z Z) Z (A7 ?_))
 refine k1 (k2 ?_)
 refine A4 (A3 (A8 Z) Z (A3 (A9 Z h1 Z) Z (A3 (A5 Z Z) Z (A3 (B9 Z (.pure _ _ _ _) Z (by omega) hv) Z (A3 (F4 Z Z) Z (C1 (J24 r) Z Z Z ?_))))));rintro _ rfl;refine A3 (F0 Z) Z (A3 (A6 Z Z) Z (A7 ?_))
 refine k1 (k10 ?_)
 exact G8 (R6 rfl rfl) (by repeat (first | exact C5 | refine tail_cons rfl ?_ | refine D3 _ ?_)) (fun _ _ h=>h) ⟨rfl,rfl⟩
theorem K04 (t:Table) (hl:t.Rows.length≤536870912):FnOk Tryz.prog 234 [pTable t] (fun rs=>rs=[pSpans (X6 (t.Rows.map fun r=>!x6 r))]):=by
 obtain ⟨l,hld⟩:∃l,l=t.Rows.map fun r=>!x6 r:=⟨_,rfl⟩
 have hll:l.length=t.Rows.length:=by rw [hld,L26]
 have ha:Answers Tryz.prog 264 1 (.box (pTable t).s1.cells) l:=fun gf ob h i hi=>by
  have h2:=I16 (gf:=gf) (ob:=ob) t i (by omega) h
  have e:l.getD i false=!x6 (t.Rows[i]'(by omega)):=by rw [L00];simp only [hld,L30,K97 (show i < t.Rows.length by omega)];rfl
  rw [e];exact h2
 have hm:=fun gf=>E63 (gf:=gf) (ob:=[(1,.box (pTable t).s1.cells)]) l 264 1 (.box (pTable t).s1.cells) (by omega) rfl (by omega) rfl ha
 rw [hll] at hm
 rw [←hld]
 refine FnOk.intro Tryz.func234 (by decide) Z Z Z Z ?_
 refine k2 ?_
 refine A4 (C7 (R1 1 Z Z Z) Z (A3 (A6 Z Z) Z (A7 ?_)))
 refine k1 (k2 ?_)
 refine A4 (A3 (A8 Z) Z (A3 (A9 Z Z Z) Z (A3 (F1 Z (.pure _ _ _ _)) Z (A3 (A31 Z Z) Z (T3 (hm _) Z Z Z ?_)))));rintro _ _ ⟨rfl,rfl⟩;refine A3 (A6 Z Z) Z (A7 ?_)
 refine k1 ?_
 refine E8 (Sees.freezeG (k:=750) Z Z) ?_
 refine k10 ?_
 exact B8 (I2 rfl rfl rfl) rfl
theorem J25 (rows:List Row) (n:Nat) (hn:1≤n∧n≤32) (hl:rows.length≤536870912):FnOk Tryz.prog 235 [pRows rows,F2 n] (fun rs=>rs=[E3 (decide (E00 rows=((2 ^ n - 1:Nat):Int)))]):=by
 have hf:=K53 n hn
 obtain ⟨X,hX⟩:∃X:Int,X=((2 ^ n - 1:Nat):Int):=⟨_,rfl⟩
 rw [←hX] at hf ⊢
 refine FnOk.intro Tryz.func235 (by decide) Z Z Z Z ?_
 refine k2 ?_
 refine A4 (A3 (A6 Z Z) Z (A7 ?_))
 refine k1 (k2 ?_)
 refine A4 (A3 (A6 Z Z) Z (A7 ?_))
 refine k1 (k2 (k2 ?_))
 refine A4 (A3 (A5 Z Z) Z (A3 (F1 Z (.pure _ _ _ _)) Z (A3 (A5 Z Z) Z (A7 ?_))))
 refine k1 (k3 ?_)
 refine E1 (X:=Nat) (fun i=>([(1,C0 n),(5,I3 (.int .u32 (E00 (rows.take i)))),(8,D2 Row 3 rowC rows),(9,C0 rows.length),(10,C0 i)],[])) (fun i=>i≤rows.length) (fun i=>rows.length - i) 0 (Nat.zero_le _) (K60 ⟨le1 rfl,le1 rfl,le1 rfl,le1 rfl,le1 rfl,trivial⟩ trivial) ?_
 intro i hi
 dsimp only at hi ⊢
 refine k2 ?_
 refine A4 (A3 (E6 Z Z) Z (A7 ?_))
 refine k1 (k2 ?_)
 refine B4 rfl (fun ht=>?_) (fun ht=>?_)
 ·have hlt:i < rows.length:=by have:=A0 ht;omega
  have hv:rows[i]?=some rows[i]:=by simp [hlt]
  have hst:E00 (rows.take (i+1))=J9 (E00 (rows.take i)) rows[i].Marks:=by unfold E00;rw [L06 hlt,L40];rfl
  obtain ⟨r,hr⟩:∃r,r=rows[i]:=⟨_,rfl⟩
  rw [←hr] at hv hst
  refine k5 (k1 (k2 (k3 (k2 ?_))))
  refine A4 (A3 (B9 Z (.pure _ _ _ _) Z (by omega) hv) Z (A3 (F4 Z Z) Z (C7 (F9 757 Z) Z (E5 (B7 TySz.out Z Z Z Z Z Z) (A7 ?_)))))
  refine k1 ?_
  refine A4 (A3 (A5 Z Z) Z (A3 (A8 Z) Z (A3 (A9 Z Z Z) Z (A3 (d6 Z Z Z (fun _=>rfl)) Z (A3 (A6 Z Z) Z (A7 ?_))))))
  refine k4 (k1 ?_)
  refine A4 (A3 (C6 Z Z (by omega)) Z (A3 (A5 Z Z) Z (A7 ?_)))
  refine k1 ?_
  refine ⟨i+1,by omega,by omega,?_⟩
  rw [hst]
  exact K60 ⟨le1 rfl,le1 rfl,le1 rfl,le1 rfl,le1 rfl,trivial⟩ trivial
 ·have hil:i=rows.length:=by have:=A1 ht;omega
  rw [hil,L27]
  refine k6 (k2 ?_)
  refine A4 (A3 (A5 Z Z) Z (A3 (A5 Z Z) Z (A3 (Q4 Z Z (by omega)) Z (A3 (C08 Z Z (by omega)) Z (A3 (I1 Z Z) Z (A3 (A6 Z Z) Z (A7 ?_)))))))
  rw [hf]
  refine k1 (k10 ?_)
  exact B8 (I2 rfl rfl rfl) rfl
theorem H24 {t:Table} (hr:K3 t.Rows) (h:J2 t=0):∃n:Nat,t.Parents=n∧(1≤n∧n≤32)∧∀r∈t.Rows,0≤r.Marks∧r.Marks < ((2 ^ n:Nat):Int):=by
 obtain ⟨h1,h2⟩:1≤t.Parents∧t.Parents≤32:=by
  unfold J2 at h
  split at h
  ·cases h
  ·omega
 refine ⟨t.Parents.toNat,by omega,by omega,J80 hr ?_⟩
 unfold J2 at h
 rw [if_neg (by omega)] at h
 cases hm:P3 t.Rows t.Parents.toNat
 ·rw [if_pos hm] at h;cases h
 ·rfl
theorem A34 {t:Table} {d:Bool} (h:J2 t=0):H0 t d=((X6 (t.Rows.map fun r=>!x6 r)).filter fun s=>!d||A59 t s,0):=by
 have hr:A11 t=(X6 (t.Rows.map fun r=>!x6 r),0):=by unfold A11;rw [if_neg (by rw [h];decide)]
 unfold H0
 rw [hr]
 exact if_neg (fun e=>e rfl)
theorem G54 {α:Type} (L:List α) (p:α→Bool) (k:Nat) (h:k < L.length):(L.take (k+1)).filter p=(L.take k).filter p++if p L[k]=true then [L[k]] else []:=by
 rw [L06 h,L44]
 congr 1
 rw [L48];split<;>rfl
theorem E06 (t:Table) (d:Bool) (hr:K3 t.Rows) (hl:t.Rows.length≤134217728) (h:J2 t=0):FnOk Tryz.prog 177 [pTable t,E3 (!d)] (fun rs=>rs=[pSpans (H0 t d).1]):=by
 obtain ⟨n,hn,hn2,hm⟩:=H24 hr h
 rw [A34 h]
 dsimp only
 obtain ⟨p,hp⟩:∃p:Span→Bool,p=fun s=>!d||A59 t s:=⟨_,rfl⟩
 rw [←hp]
 have hin:=F24 (t.Rows.map fun r=>!x6 r)
 rw [L26] at hin
 have hR:=K04 t (by omega)
 have horder:∀s∈X6 (t.Rows.map fun r=>!x6 r),s.From≤s.To:=K50 _
 obtain ⟨L,hL⟩:∃L,L=X6 (t.Rows.map fun r=>!x6 r):=⟨_,rfl⟩
 rw [←hL] at hin hR horder ⊢
 obtain ⟨hin1,hin2⟩:=hin
 refine FnOk.intro Tryz.func177 (by decide) Z Z Z Z ?_
 refine k2 ?_
 refine A4 (C7 (R1 2 Z Z Z) Z (A3 (A6 Z Z) Z (A7 ?_)))
 refine k1 (k2 ?_)
 refine A4 (C7 (B85 752 _ spanC Z) Z (A7 ?_))
 refine k1 (k2 (k2 ?_))
 refine A4 (A3 (D5 Z Z Z) Z (C1 (hR) Z Z Z ?_));rintro _ rfl;refine A3 (F1 Z (.pure _ _ _ _)) Z (A3 (A5 Z Z) Z (A7 ?_))
 refine k1 (k3 ?_)
 refine E1 (X:=Nat) (fun k=>([(1,O5 (!d)),(2,.s (.one (.ref 2 0))),(5,.s (.one (.buf 752 Span 2 spanC ((L.take k).filter p)))),(9,D2 Span 2 spanC L),(10,C0 L.length),(11,C0 k)],[(2,.box (pTable t).s1.cells),(752,.spare ((L.take k).filter p).length 2 95)])) (fun k=>k≤L.length) (fun k=>L.length - k) 0 (Nat.zero_le _) (K60 ⟨le1 rfl,le1 rfl,le1 rfl,le1 rfl,le1 rfl,le1 rfl,trivial⟩ ⟨rfl,rfl,trivial⟩) ?_
 intro k hk
 dsimp only at hk ⊢
 have hfl:=List.length_filter_le p (L.take k)
 have htl:(L.take k).length=k:=by rw [L08];omega
 refine k2 ?_
 refine A4 (A3 (E6 Z Z) Z (A7 ?_))
 refine k1 (k2 ?_)
 refine B4 rfl (fun ht=>?_) (fun ht=>?_)
 rotate_left
 ·have hkl:k=L.length:=by have:=A1 ht;omega
  rw [hkl,L27]
  refine k6 (k2 ?_)
  refine A4 (A3 (A5 Z Z) Z (A3 (A6 Z Z) Z (A7 ?_)))
  refine k1 (k10 ?_)
  exact B8 (I2 rfl rfl rfl) rfl
 have hlt:k < L.length:=by have:=A0 ht;omega
 have hst:=G54 L p k hlt
 have hv:L[k]?=some L[k]:=by simp [hlt]
 have hs:=hin2 _ (L15 hlt)
 have hso:=horder _ (L15 hlt)
 obtain ⟨s,hsd⟩:∃s,s=L[k]:=⟨_,rfl⟩
 rw [←hsd] at hst hv hs hso
 obtain ⟨F,hF⟩:∃F:Nat,s.From=F:=⟨s.From.toNat,by omega⟩
 obtain ⟨T,hT⟩:∃T:Nat,s.To=T:=⟨s.To.toNat,by omega⟩
 have hse:s=⟨F,T⟩:=by rw [←hF,←hT]
 have hdi:=K52 hn hn2 hm F T hse
 have hps:p s=(!d||A59 t s):=by rw [hp]
 rw [hse] at hv
 have hsub:((t.Rows.drop F).take (T - F)).length≤t.Rows.length:=by rw [L08,L05];omega
 have hde:=J25 ((t.Rows.drop F).take (T - F)) n hn2 (by omega)
 rw [hdi,←hn] at hde
 refine k5 (k1 (k2 (k3 (k2 ?_))))
 refine A4 (A3 (B9 Z (.pure _ _ _ _) Z (by omega) hv) Z (A3 (F4 Z Z) Z (C7 (F9 757 Z) Z (E5 (B7 TySz.out Z Z Z Z Z Z) (A7 ?_)))))
 refine K4 [(1,O5 (!d)),(2,.s (.one (.ref 2 0))),(5,.s (.one (.buf 752 Span 2 spanC ((L.take k).filter p)))),(7,.s (.one (.ref 757 0))),(9,D2 Span 2 spanC L),(10,C0 L.length),(11,C0 k)] [(2,.box (pTable t).s1.cells),(752,.spare ((L.take k).filter p).length 2 95),(757,.box [.p (.v (.int .i64 F)),.p (.v (.int .i64 T))])] (K60 ⟨le1 rfl,le1 rfl,le1 rfl,le1 rfl,le1 rfl,le1 rfl,le1 rfl,trivial⟩ ⟨rfl,rfl,rfl,trivial⟩) ?_
 refine k2 ?_
 refine D4 (by kernel_rfl) (by kernel_rfl) (B1 (A5 Z Z) Z Z (B1 (A5 Z Z) Z Z (D7 Z Z (fun hg=>by rw [hg];exact A8 Z) Z Z ?_)));refine D7 Z Z (fun hg=>by rw [hg];exact A9 Z Z Z) Z Z ?_;refine D7 Z Z (fun hg=>by rw [hg];exact A8 Z) Z Z ?_;refine D7 Z Z (fun hg=>by rw [hg];exact A9 Z Z Z) Z Z ?_;refine D7 Z Z (fun hg=>by rw [hg];exact A8 Z) Z Z ?_;refine D7 Z Z (fun hg=>by rw [hg];exact A9 Z Z Z) Z Z ?_;refine D7 Z Z (fun hg=>by have hq:=hg;(try simp at hq);rw [hg];exact d7 Z (.pure _ _ _ _) Z Z (by omega) (by omega) (by omega)) Z Z ?_;refine D7 Z Z (fun hg=>by rw [hg];exact A8 Z) Z Z ?_;refine D7 Z Z (fun hg=>by rw [hg];exact A9 Z Z Z) Z Z ?_;refine D7 Z Z (fun hg=>by have hq:=hg;(try simp at hq);rw [hg];exact K9 (hde) Z Z) Z Z ?_;refine B1 (B5 Z (fun h=>by first | rfl | (rw [h];rfl)) (fun h=>by first | rfl | (rw [h];rfl))) Z Z ?_;refine L4 ?_
 refine k1 ?_
 refine B4 rfl (fun ht=>?_) (fun ht=>?_)
 ·have hpt:p s=true:=by rw [hps];cases d<;>simp_all
  rw [if_pos hpt] at hst
  skip
  refine A4 (A3 (A5 Z Z) Z (A3 (D5 Z Z Z) Z (A3 (E4 (c:=spanC) (ys:=[⟨F,T⟩]) (F3 Z Z Z Z I6) Z Z Z) Z (C7 (L0 Z Z Z (.pure _ _ _ _) (by (simp only [K99,L02];omega)) Z) Z (A3 (A6 Z Z) Z (A7 ?_))))))
  refine k4 (k1 ?_)
  refine A4 (A3 (C6 Z Z (by omega)) Z (A3 (A5 Z Z) Z (A7 ?_)))
  refine k1 ?_
  refine ⟨k+1,by omega,by omega,?_⟩
  rw [hst,hse]
  exact K60 ⟨le1 rfl,le1 rfl,le1 rfl,le1 rfl,le1 rfl,le1 rfl,trivial⟩ ⟨rfl,rfl,trivial⟩
 ·have hpt:¬p s=true:=by rw [hps];cases d<;>simp_all
  rw [if_neg hpt,L21] at hst
  refine k5 (k4 (k1 ?_))
  refine A4 (A3 (C6 Z Z (by omega)) Z (A3 (A5 Z Z) Z (A7 ?_)))
  refine k1 ?_
  refine ⟨k+1,by omega,by omega,?_⟩
  rw [hst]
  exact K60 ⟨le1 rfl,le1 rfl,le1 rfl,le1 rfl,le1 rfl,le1 rfl,trivial⟩ ⟨rfl,rfl,trivial⟩
theorem H25 {gf:Fr} {ob:Obs} (l:List Bool) (i:Nat) (hi:i < l.length) (h1:C2 ob 9=some (.box [.p (.list Bool 1 D14 l)])) :
  AL.Met Tryz.prog 179 [iS i,.one (.ref 9 0)] gf ob [] (fun rs ob'=>rs=[bS (l.getD i false)]∧ob'=ob):=by
 have hv:l[((i:Nat):Int).toNat]?=some (l.getD i false):=by rw [L01];simp [hi]
 obtain ⟨b,hb⟩:∃b,b=l.getD i false:=⟨_,rfl⟩
 rw [←hb] at hv ⊢
 refine AL.Met.intro Tryz.func179 (by decide) Z Z Z ?_
 refine k2 ?_
 refine A4 (A3 (A6 Z Z) Z (A7 ?_))
 refine k1 (k2 ?_)
 refine A4 (A3 (A9 Z h1 Z) Z (A3 (A5 Z Z) Z (A3 (B9 Z (.pure _ _ _ _) Z (by omega) hv) Z (A3 (C8 Z Z) Z (A3 (A6 Z Z) Z (A7 ?_))))))
 refine k1 (k10 ?_)
 exact G8 (R6 rfl rfl) (by repeat (first | exact C5 | refine tail_cons rfl ?_ | refine D3 _ ?_)) (fun _ _ h=>h) ⟨rfl,rfl⟩
theorem K05 {t:Table} {ctx:Int} {d:Bool} (h:J2 t=0) (hc:¬(ctx < 0∨1048576 < ctx)):M3 t ctx d=(X6 ((List.range t.Rows.length).map (S2 (H0 t d).1 ctx)),0):=by
 unfold M3
 rw [if_neg (by rw [A34 h];exact fun e=>e rfl),if_neg hc]
theorem K06 {t:Table} {ctx:Int} {d:Bool} (h:J2 t≠0):M3 t ctx d=([],J2 t):=by
 have hr:A11 t=([],J2 t):=by unfold A11;rw [if_pos h]
 have hi:H0 t d=([],J2 t):=by unfold H0;rw [hr];exact if_pos h
 unfold M3
 rw [hi]
 exact if_pos h
theorem J26 (L:List Span) (ctx:Int) (n k:Nat) (q:Nat) (A:Int) (i:Nat) (hi:A+(q:Int)=i) :
  ((List.range n).map fun j=>S2 (L.take k) ctx j||decide (A≤(j:Int)∧(j:Int) < A+q)).set i true=(List.range n).map fun j=>S2 (L.take k) ctx j||decide (A≤(j:Int)∧(j:Int) < A+(q+1:Nat)):=by
 refine B94 n i _ _ _ (fun _=>?_) (fun j _ hj=>?_)
 ·rw [decide_eq_true (by omega),Bool.or_true]
 ·congr 1
  exact decide_eq_decide.2 (by omega)
theorem J27 (t:Table) (ctx:Int) (d:Bool) (hr:K3 t.Rows) (hl:t.Rows.length≤134217728) (hx:V7 t.Rows≤536870912) :
  FnOk Tryz.prog 98 [pTable t,F2 ctx,E3 d] (fun rs=>rs=[pSpans (M3 t ctx d).1,F2 (M3 t ctx d).2]):=by
 refine FnOk.intro Tryz.func98 (by decide) Z Z Z Z ?_
 refine k2 ?_
 refine A4 (C7 (R1 3 Z Z Z) Z (A3 (A6 Z Z) Z (A3 (A6 Z Z) Z (A7 ?_))))
 refine k1 (k2 (k2 ?_))
 refine A4 (A3 (D5 Z Z Z) Z (C1 (F84 t hr (by omega) (by omega)) Z Z Z ?_));rintro _ rfl;refine A3 (A6 Z Z) Z (A7 ?_)
 refine k1 (k2 ?_)
 refine A4 (A3 (A5 Z Z) Z (A3 (O6 Z Z) Z (A7 ?_)))
 refine k1 ?_
 refine B4 rfl (fun ht=>?_) (fun ht=>?_)
 ·have h:=A0 ht
  refine k2 ?_
  refine A4 (A3 (A5 Z Z) Z (A3 (S8 _ 2 spanC) Z (A3 (A6 Z Z) Z (A7 ?_))))
  refine k1 (k10 (k11 ?_))
  exact B8 (j9 rfl rfl rfl rfl rfl) (by rw [K06 h])
 have h:=A1 ht
 have h0:J2 t=0:=by omega
 refine k5 (k1 (k2 (k2 ?_)))
 refine A4 (A3 (A5 Z Z) Z (A3 (E6 Z Z) Z (A3 (A5 Z Z) Z (B0 Z Z Z Z (fun hg=>by rw [hg];exact A5 Z Z) ?_))));refine B0 Z Z Z Z (fun hg=>by rw [hg];exact R5 Z Z) ?_;refine A3 (B5 Z (fun h=>by first | rfl | (rw [h];rfl)) (fun h=>by first | rfl | (rw [h];rfl))) Z ?_;refine A7 ?_
 refine k1 ?_
 refine B4 rfl (fun ht=>?_) (fun ht=>?_)
 ·have h1:=A0 (or_pick.symm.trans ht)
  refine k2 ?_
  refine A4 (A3 (S8 _ 2 spanC) Z (A3 (A6 Z Z) Z (A7 ?_)))
  refine k1 (k10 (k11 ?_))
  exact B8 (j9 rfl rfl rfl rfl rfl) (by unfold M3;rw [if_neg (by rw [A34 h0];exact fun e=>e rfl),if_pos (by omega)])
 have h1:=A1 (or_pick.symm.trans ht)
 rw [K05 h0 (by omega)]
 have hI:=E06 t d hr hl h0
 have hin:=F25 t d
 have hup:=F26 t d
 obtain ⟨L,hL⟩:∃L,L=(H0 t d).1:=⟨_,rfl⟩
 rw [←hL] at hin hI hup ⊢
 obtain ⟨hin1,hin2⟩:=hin
 obtain ⟨n,hn⟩:∃n,n=t.Rows.length:=⟨_,rfl⟩
 rw [←hn] at hin1 hin2 hl ⊢
 refine K4 [(1,C0 ctx),(2,O5 d),(3,.s (.one (.ref 3 0)))] [(3,.box (pTable t).s1.cells)] (K60 ⟨le1 rfl,le1 rfl,le1 rfl,trivial⟩ ⟨rfl,trivial⟩) ?_
 refine k5 (k1 (k2 ?_))
 refine A4 (A3 (A8 Z) Z (A3 (A9 Z Z Z) Z (A3 (F1 Z (.pure _ _ _ _)) Z (C7 (m9 753 Bool D14 false Z Z (by omega) (by omega) (fun _=>by first | exact ⟨⟨rfl,rfl⟩,trivial⟩ | exact ⟨N8 _ _ _,trivial⟩) (by first | rfl | (simp [G3,H7,Ob.free,SV.free,S1.free,TC.free]<;>rfl))) Z ?_))));refine C7 (F9 9 Z) Z (E5 (B7 TySz.out Z Z Z Z Z Z) (A7 ?_))
 rw [←hn,L01]
 refine k1 (k2 ?_)
 refine A4 (A3 (A6 Z Z) Z (A7 ?_))
 refine k1 (k2 (k2 ?_))
 refine A4 (A3 (D5 Z Z Z) Z (A3 (A5 Z Z) Z (A3 (F0 Z) Z (C1 (hI) Z Z Z ?_))));rintro _ rfl;refine A3 (F1 Z (.pure _ _ _ _)) Z (A3 (A5 Z Z) Z (A7 ?_))
 refine k1 (k3 ?_)
 refine E1 (X:=Nat × Int) (fun x=>([(1,C0 ctx),(9,.s (.one (.ref 9 0))),(10,C0 x.2),(33,D2 Span 2 spanC L),(34,C0 L.length),(35,C0 x.1)],[(9,.box [.mut 753]),(753,.arr Bool 1 D14 ((List.range n).map (S2 (L.take x.1) ctx)))])) (fun x=>x.1≤L.length∧(0≤x.2∧x.2≤n)∧∀(hk:x.1 < L.length) (i:Nat),L[x.1].From - ctx≤i→(i:Int) < x.2→S2 (L.take x.1) ctx i=true) (fun x=>L.length - x.1) (0,0) ⟨Nat.zero_le _,⟨Int.le_refl _,by omega⟩,fun _ i _ h=>by dsimp only at h;omega⟩ ?_ ?_
 ·have e:List.replicate n false=(List.range n).map (S2 (L.take 0) ctx):=by
   refine List.ext_getElem (by simp) fun q h1 h2=>?_
   simp [S2]
  rw [e]
  exact K60 ⟨le1 rfl,le1 rfl,le1 rfl,le1 rfl,le1 rfl,le1 rfl,trivial⟩ ⟨rfl,rfl,trivial⟩
 rintro ⟨k,e⟩ ⟨hk,he,hinv⟩
 dsimp only at hk he hinv ⊢
 refine k2 ?_
 refine A4 (A3 (E6 Z Z) Z (A7 ?_))
 refine k1 (k2 ?_)
 refine B4 rfl (fun ht=>?_) (fun ht=>?_)
 rotate_left
 ·have hkl:k=L.length:=by have:=A1 ht;omega
  rw [hkl,L27]
  obtain ⟨sh,hsh⟩:∃sh,sh=(List.range n).map (S2 L ctx):=⟨_,rfl⟩
  have hshl:sh.length=n:=by rw [hsh];simp
  rw [←hsh]
  have ha:Answers Tryz.prog 179 9 (.box [.p (.list Bool 1 D14 sh)]) sh:=fun gf ob h i hi=>H25 sh i hi h
  have hm:=fun gf=>E63 (gf:=gf) (ob:=[(9,.box [.p (.list Bool 1 D14 sh)])]) sh 179 9 (.box [.p (.list Bool 1 D14 sh)]) (by omega) rfl (by omega) rfl ha
  refine E8 (Sees.freeze (k:=753) Z) ?_
  refine K4 [(9,.s (.one (.ref 9 0)))] [(9,.box [.p (.list Bool 1 D14 sh)])] (K60 ⟨le1 rfl,trivial⟩ ⟨rfl,trivial⟩) ?_
  refine k6 (k2 ?_)
  refine A4 (A3 (A9 Z Z Z) Z (A3 (F1 Z (.pure _ _ _ _)) Z (A3 (A31 Z Z) Z (T3 (hm _) Z Z Z ?_))));rintro _ _ ⟨rfl,rfl⟩;refine A3 (A6 Z Z) Z (A3 (A6 Z Z) Z (A7 ?_))
  refine k1 ?_
  refine E8 (Sees.freezeG (k:=750) Z Z) ?_
  refine k10 ?_
  exact B8 (j9 rfl rfl rfl rfl rfl) rfl
 have hlt:k < L.length:=by have:=A0 ht;omega
 have hv:L[k]?=some L[k]:=by simp [hlt]
 have hs:=hin2 _ (L15 hlt)
 have hinv:=hinv hlt
 have hsucc:=G89 L ctx k hlt
 have hnext:∀hk1:k+1 < L.length,L[k].From≤L[k+1].From:=fun hk1=>up_get hup hk1
 obtain ⟨s,hsd⟩:∃s,s=L[k]:=⟨_,rfl⟩
 rw [←hsd] at hv hs hinv hsucc hnext
 obtain ⟨sF,sT⟩:=s
 dsimp only at hs hinv hsucc hnext
 refine k5 (k1 (k2 (k3 (k2 ?_))))
 refine A4 (A3 (B9 Z (.pure _ _ _ _) Z (by omega) hv) Z (A3 (F4 Z Z) Z (C7 (F9 757 Z) Z (E5 (B7 TySz.out Z Z Z Z Z Z) (A7 ?_)))))
 refine K4 [(1,C0 ctx),(9,.s (.one (.ref 9 0))),(10,C0 e),(12,.s (.one (.ref 757 0))),(33,D2 Span 2 spanC L),(34,C0 L.length),(35,C0 k)] [(9,.box [.mut 753]),(753,.arr Bool 1 D14 ((List.range n).map (S2 (L.take k) ctx))),(757,.box [.p (.v (.int .i64 sF)),.p (.v (.int .i64 sT))])] (K60 ⟨le1 rfl,le1 rfl,le1 rfl,le1 rfl,le1 rfl,le1 rfl,le1 rfl,trivial⟩ ⟨rfl,rfl,rfl,trivial⟩) ?_
 refine k2 ?_
 refine A4 (A3 (A8 Z) Z (A3 (A9 Z Z Z) Z (A3 (A5 Z Z) Z (A3 (Q4 Z Z (by omega)) Z (A3 (A5 Z Z) Z (A3 (n_max Z Z) Z (A3 (A6 Z Z) Z (A7 ?_))))))))
 refine k1 (k2 ?_)
 have hal:((List.range n).map (S2 (L.take k) ctx)).length=n:=by simp
 refine A4 (A3 (A8 Z) Z (A3 (A9 Z Z Z) Z (A3 (A5 Z Z) Z (A3 (C6 Z Z (by omega)) Z (A3 (A9 Z Z Z) Z (A3 (J09 Z Z) Z (A3 (F68 Z Z) Z (A3 (A6 Z Z) Z (A7 ?_)))))))))
 rw [hal]
 obtain ⟨A,hA⟩:∃A:Int,A=if e > sF - ctx then e else sF - ctx:=⟨_,rfl⟩
 obtain ⟨E,hE⟩:∃E:Int,E=if (n:Int) < sT+ctx then (n:Int) else sT+ctx:=⟨_,rfl⟩
 have hA1:e≤A∧sF - ctx≤A∧(A=e∨A=sF - ctx):=by rw [hA];split<;>omega
 have hE1:E≤n∧E≤sT+ctx∧(E=n∨E=sT+ctx):=by rw [hE];split<;>omega
 rw [←hA,←hE]
 refine k1 (k2 ?_)
 refine A4 (A3 (A5 Z Z) Z (A3 (A6 Z Z) Z (A7 ?_)))
 refine k1 (k3 ?_)
 refine E1 (X:=Nat) (fun q=>([(1,C0 ctx),(9,.s (.one (.ref 9 0))),(10,C0 E),(14,C0 (A+q)),(33,D2 Span 2 spanC L),(34,C0 L.length),(35,C0 k)],[(9,.box [.mut 753]),(753,.arr Bool 1 D14 ((List.range n).map fun j=>S2 (L.take k) ctx j||decide (A≤(j:Int)∧(j:Int) < A+q)))])) (fun q=>q≤(E - A).toNat) (fun q=>(E - A).toNat - q) 0 (Nat.zero_le _) ?_ ?_
 ·have e0:((List.range n).map fun j=>S2 (L.take k) ctx j||decide (A≤(j:Int)∧(j:Int) < A+((0:Nat):Int)))=(List.range n).map (S2 (L.take k) ctx):=by
   refine List.map_congr_left fun j _=>?_
   rw [decide_eq_false (by omega),Bool.or_false]
  dsimp only
  rw [e0,show A+((0:Nat):Int)=A by omega]
  exact K60 ⟨le1 rfl,le1 rfl,le1 rfl,le1 rfl,le1 rfl,le1 rfl,le1 rfl,trivial⟩ ⟨rfl,rfl,trivial⟩
 intro q hq
 dsimp only at hq ⊢
 have hql:((List.range n).map fun j=>S2 (L.take k) ctx j||decide (A≤(j:Int)∧(j:Int) < A+q)).length=n:=by simp
 refine k2 (k2 ?_)
 refine A4 (A3 (A5 Z Z) Z (A3 (A5 Z Z) Z (A3 (E6 Z Z) Z (A7 ?_))))
 refine k1 ?_
 refine B4 rfl (fun ht=>?_) (fun ht=>?_)
 ·have h2:=A0 ht
  have hset:=J26 L ctx n k q A (A+q).toNat (by omega)
  refine k5 (k1 (k2 (k3 ?_)))
  refine A4 (A3 (A9 Z Z Z) Z (A3 (A5 Z Z) Z (A3 (F5 Z Z Z (by omega) (by (first | omega | (rw [hql];omega)))) Z (E5 (H4 TySz.out Z Z (by (rw [hql];omega)) Z Z) ?_))));refine A7 ?_
  rw [hset]
  refine k4 (k1 ?_)
  refine A4 (A3 (A5 Z Z) Z (A3 (C6 Z Z (by omega)) Z (A3 (A6 Z Z) Z (A7 ?_))))
  refine k1 ?_
  refine ⟨q+1,by omega,by omega,?_⟩
  rw [show A+((q+1:Nat):Int)=A+q+1 by omega]
  exact K60 ⟨le1 rfl,le1 rfl,le1 rfl,le1 rfl,le1 rfl,le1 rfl,le1 rfl,trivial⟩ ⟨rfl,rfl,trivial⟩
 have h2:=A1 ht
 have hqE:q=(E - A).toNat:=by omega
 have hfin:((List.range n).map fun j=>S2 (L.take k) ctx j||decide (A≤(j:Int)∧(j:Int) < A+q))=(List.range n).map (S2 (L.take (k+1)) ctx):=by
  refine List.map_congr_left fun j hj=>?_
  have hjn:=List.mem_range.1 hj
  rw [hsucc j]
  by_cases hj1:sF - ctx≤j∧(j:Int) < e
  ·rw [hinv j hj1.1 hj1.2,Bool.true_or,Bool.true_or]
  ·congr 1
   exact decide_eq_decide.2 (by omega)
 rw [hfin]
 refine k6 (k7 (k7 (k8 Z (k4 (k1 ?_)))))
 refine A4 (A3 (C6 Z Z (by omega)) Z (A3 (A5 Z Z) Z (A7 ?_)))
 refine k1 ?_
 refine ⟨(k+1,E),⟨by dsimp only;omega,by dsimp only;omega,fun hk1 i hi hiE=>?_⟩,by dsimp only;omega,K60 ⟨le1 rfl,le1 rfl,le1 rfl,le1 rfl,le1 rfl,le1 rfl,trivial⟩ ⟨rfl,rfl,trivial⟩⟩
 dsimp only at hk1 hi hiE ⊢
 have:=hnext hk1
 rw [hsucc i,decide_eq_true (by omega),Bool.or_true]
theorem gD {s:Str} {i:Nat} (h:i < s.length):s[i]?=some (s.getD i 0):=by simp [h]
def C89 (s:Str) (i:Nat):Bool:=decide ((i < s.length∧48≤(s.getD i 0).toNat)∧(s.getD i 0).toNat≤57)
theorem I17 (s:Str) (i:Nat):C89 s i=match s[i]? with | some c=>Z8 c | none=>false:=by
 unfold C89 Z8
 by_cases h:i < s.length
 ·rw [gD h];simp [h]
 ·rw [L19 (by omega)];simp [h]
theorem digs_le (s:Str) (i:Nat):(L6 (s.drop i)).length≤s.length - i:=by
 unfold L6
 have:=(List.takeWhile_sublist Z8 (l:=s.drop i)).length_le
 rw [L05] at this;exact this
theorem B01 {p:UInt8→Bool}:∀(s:Str) (k:Nat),k≤(s.takeWhile p).length→(match s[k]? with | some c=>p c | none=>false)=decide (k < (s.takeWhile p).length)
 | [],k,h=>by simp at h ⊢
 | c::r,0,h=>by by_cases hc:p c=true<;>simp [List.takeWhile_cons,hc]
 | c::r,k+1,h=>by
  by_cases hc:p c=true
  ·rw [List.takeWhile_cons,if_pos hc,K99] at h ⊢
   have:=B01 (p:=p) r k (by omega)
   rw [List.getElem?_cons_succ,this];simp
  ·rw [List.takeWhile_cons,if_neg hc] at h;simp at h
theorem C21 {p:UInt8→Bool}:∀(s:Str) (k:Nat),k < (s.takeWhile p).length→s[k]?=(s.takeWhile p)[k]?
 | [],k,h=>by simp at h
 | c::r,k,h=>by
  by_cases hc:p c=true
  ·rw [List.takeWhile_cons,if_pos hc] at h ⊢
   cases k with
   | zero=>rfl
   | succ k=>rw [List.getElem?_cons_succ,List.getElem?_cons_succ];exact C21 (p:=p) r k (by simpa using h)
  ·rw [List.takeWhile_cons,if_neg hc] at h;simp at h
theorem F88 (s:Str) (i k:Nat) (h:k≤(L6 (s.drop i)).length):C89 s (i+k)=decide (k < (L6 (s.drop i)).length):=by
 rw [I17,←L25]
 exact B01 (s.drop i) k h
theorem J28 {s:Str} {i k:Nat} (h:k < (L6 (s.drop i)).length):s[i+k]?=some ((L6 (s.drop i)).getD k 0)∧48≤((L6 (s.drop i)).getD k 0).toNat∧((L6 (s.drop i)).getD k 0).toNat≤57 ∧
  A43 ((L6 (s.drop i)).take (k+1))=10*A43 ((L6 (s.drop i)).take k)+(((L6 (s.drop i)).getD k 0).toNat - 48):=by
 have h1:s[i+k]?=(L6 (s.drop i))[k]?:=by rw [←L25];exact C21 _ _ h
 have h2:=gD h
 have h3:Z8 ((L6 (s.drop i)).getD k 0)=true:=by
  have hm:(L6 (s.drop i)).getD k 0∈(s.drop i).takeWhile Z8:=L13 h2
  exact List.all_eq_true.1 List.all_takeWhile _ hm
 unfold Z8 at h3
 have h3:=A0 h3
 refine ⟨by rw [h1,h2],h3.1,h3.2,?_⟩
 obtain ⟨hl,he⟩:=List.getElem?_eq_some_iff.1 h2
 rw [L06 hl,G11,he]
theorem H26 (n:Nat) (h:48≤n) (h2:n≤57):IntKind.i64.wrap (IntKind.u8.wrap ((n:Int) - 48))=((n - 48:Nat):Int):=by
 have:∀k:Fin 10,IntKind.i64.wrap (IntKind.u8.wrap (((k.1+48:Nat):Int) - 48))=((k.1:Nat):Int):=by decide
 have h3:=this ⟨n - 48,by omega⟩
 dsimp only at h3
 rw [show n - 48+48=n by omega] at h3
 exact h3
def G55 (s:Str) (i:Nat):List PV:=match a8 (s.drop i) with
 | none=>[F2 0,F2 0,E3 false]
 | some (n,k)=>[F2 n,F2 ((i+k:Nat):Int),E3 true]
theorem F89 {s:Str} {n k:Nat} (h:a8 s=some (n,k)):k=(L6 s).length∧n=A43 (L6 s)∧0 < k∧k≤s.length∧n≤2147483647:=by
 unfold a8 at h
 split at h
 ·cases h
 ·rename_i h1
  cases h
  have h2:L6 s≠[]:=fun e=>h1 (.inl e)
  have h3:=List.length_pos_iff.2 h2
  have h4:(L6 s).length≤s.length:=by unfold L6;exact (List.takeWhile_sublist Z8).length_le
  refine ⟨rfl,rfl,h3,h4,?_⟩
  by_cases hv:A43 (L6 s)≤2147483647
  ·exact hv
  ·exact absurd (.inr (.inr (by omega))) h1
theorem F90 (s:Str) (i:Nat):FnOk Tryz.prog 256 [G7 s,F2 i] (fun rs=>rs=[E3 (C89 s i)]):=by
 refine FnOk.intro Tryz.func256 (by decide) Z Z Z Z ?_
 refine k2 ?_
 refine A4 (A3 (A6 Z Z) Z (A7 ?_))
 refine k1 (k2 ?_)
 refine A4 (A3 (A5 Z Z) Z (A3 (A5 Z Z) Z (A3 (E7 Z) Z (A3 (E6 Z Z) Z (A3 (A5 Z Z) Z (B0 Z Z Z Z (fun hg=>by rw [hg];exact A5 Z Z) ?_))))));refine B0 Z Z Z Z (fun hg=>by rw [hg];exact A5 Z Z) ?_;refine B0 Z Z Z Z (fun hg=>by have hq:=hg;(try simp at hq);rw [hg];exact L5 Z Z (by omega) (gD (by omega))) ?_;refine B0 Z Z Z Z (fun hg=>by rw [hg];exact A12 Z Z) ?_;refine A3 (B5 Z (fun h=>by first | rfl | (rw [h];rfl)) (fun h=>by first | rfl | (rw [h];rfl))) Z ?_;refine A3 (A5 Z Z) Z (B0 Z Z Z Z (fun hg=>by rw [hg];exact A5 Z Z) ?_);refine B0 Z Z Z Z (fun hg=>by rw [hg];exact A5 Z Z) ?_;refine B0 Z Z Z Z (fun hg=>by have hq:=hg;(try simp at hq);rw [hg];exact L5 Z Z (by omega) (gD (by omega))) ?_;refine B0 Z Z Z Z (fun hg=>by rw [hg];exact B27 Z Z) ?_;refine A3 (B5 Z (fun h=>by first | rfl | (rw [h];rfl)) (fun h=>by first | rfl | (rw [h];rfl))) Z ?_;refine A3 (A6 Z Z) Z (A7 ?_)
 refine k1 (k10 ?_)
 refine B8 (I2 Z Z Z) ?_
 simp only [L1]
 unfold C89
 congr 4
 congr 1
 simp;omega
theorem B02 (s:Str) (i:Nat) (hi:i≤s.length) (hs:s.length≤1073741824):FnOk Tryz.prog 221 [G7 s,F2 i] (fun rs=>rs=G55 s i):=by
 obtain ⟨ds,hds⟩:∃ds,ds=L6 (s.drop i):=⟨_,rfl⟩
 have hle:=digs_le s i
 have h0:=F88 s i 0 (Nat.zero_le _)
 rw [Nat.add_zero] at h0
 rw [←hds] at hle h0
 refine FnOk.intro Tryz.func221 (by decide) Z Z Z Z ?_
 refine k2 ?_
 refine A4 (A3 (A6 Z Z) Z (A3 (A6 Z Z) Z (A3 (A6 Z Z) Z (A7 ?_))))
 refine k1 (k2 (k2 ?_))
 refine A4 (A3 (A5 Z Z) Z (A3 (E6 Z Z) Z (A3 (A5 Z Z) Z (B0 Z Z Z Z (fun hg=>by rw [hg];exact A5 Z Z) ?_))));refine B0 Z Z Z Z (fun hg=>by rw [hg];exact A5 Z Z) ?_;refine B0 Z Z Z Z (fun hg=>by have hq:=hg;(try simp at hq);rw [hg];exact K9 (F90 s i) Z Z) ?_;refine B0 Z Z Z Z (fun hg=>by rw [hg];exact F0 Z) ?_;refine A3 (B5 Z (fun h=>by first | rfl | (rw [h];rfl)) (fun h=>by first | rfl | (rw [h];rfl))) Z ?_;refine A7 ?_
 rw [h0]
 refine k1 ?_
 by_cases hz:ds.length=0
 ·refine B4 rfl (fun ht=>?_) (fun ht=>?_)
  rotate_left
  ·exfalso;revert ht;simp [hz]
  refine k2 ?_
  refine A4 (A3 (A6 Z Z) Z (A3 (A6 Z Z) Z (A3 (A6 Z Z) Z (A7 ?_))))
  refine k1 (k10 (k11 ?_))
  refine B8 (rs:=[F2 0,F2 0,E3 false]) (ret3 Z Z Z Z Z Z Z) ?_
  unfold G55 a8
  rw [←hds,if_pos (.inl (List.length_eq_zero_iff.1 hz))]
 refine B4 rfl (fun ht=>?_) (fun ht=>?_)
 ·exfalso;revert ht;simp [show 0 < ds.length by omega]
 refine k5 (k1 (k2 ?_))
 refine A4 (A3 (A5 Z Z) Z (A3 (A6 Z Z) Z (A3 (A6 Z Z) Z (A7 ?_))))
 refine k1 (k2 (k3 ?_))
 refine E1 (X:=Nat) (fun k=>([(0,J3 s),(1,C0 i),(7,C0 ((min (A43 (ds.take k)) 2147483648:Nat):Int)),(8,C0 ((i+k:Nat):Int))],[])) (fun k=>k≤ds.length) (fun k=>ds.length - k) 0 (Nat.zero_le _) (K60 ⟨le1 rfl,le1 rfl,le1 rfl,le1 rfl,trivial⟩ trivial) ?_
 intro k hk
 dsimp only at hk ⊢
 have hrun:=F88 s i k (by rw [←hds];exact hk)
 rw [←hds] at hrun
 refine k2 (k2 ?_)
 refine A4 (A3 (A5 Z Z) Z (A3 (A5 Z Z) Z (C1 (F90 s (i+k)) Z Z Z ?_)));rintro _ rfl;refine A7 ?_
 rw [hrun]
 refine k1 ?_
 refine B4 rfl (fun ht=>?_) (fun ht=>?_)
 ·have hlt:k < ds.length:=A0 ht
  obtain ⟨g1,g2,g3,g4⟩:=J28 (s:=s) (i:=i) (k:=k) (by rw [←hds];exact hlt)
  rw [←hds] at g1 g2 g3 g4
  obtain ⟨c,hc⟩:∃c,c=ds.getD k 0:=⟨_,rfl⟩
  rw [←hc] at g1 g2 g3 g4
  obtain ⟨v,hv⟩:∃v,v=min (A43 (ds.take k)) 2147483648:=⟨_,rfl⟩
  have hvb:v≤2147483648:=by omega
  have hnew:min (A43 (ds.take (k+1))) 2147483648=min (10*v+(c.toNat - 48)) 2147483648:=by rw [g4];omega
  rw [←hv]
  have hsub:=H26 c.toNat g2 g3
  refine k5 (k1 (k2 (k3 ?_)))
  refine A4 (A3 (A5 Z Z) Z (A3 (B37 Z Z (by omega)) Z (A3 (A5 Z Z) Z (A3 (A5 Z Z) Z (A3 (L5 Z Z (by omega) g1) Z (A3 (G32 Z Z) Z (A3 (S3 Z) Z (A3 (C6 Z Z (by (rw [hsub];omega))) Z ?_))))))));refine A3 (F68 Z Z) Z (A3 (A6 Z Z) Z (A7 ?_))
  refine k4 (k1 ?_)
  refine A4 (A3 (A5 Z Z) Z (A3 (C6 Z Z (by omega)) Z (A3 (A6 Z Z) Z (A7 ?_))))
  refine k1 ?_
  refine ⟨k+1,hlt,by omega,?_⟩
  rw [hnew]
  refine K60 ⟨⟨_,rfl,.same _⟩,⟨_,rfl,.same _⟩,⟨_,rfl,.eq ?_⟩,⟨_,rfl,.eq ?_⟩,trivial⟩ trivial
  ·rw [hsub]
   congr 6
   split<;>omega
  ·congr 6
 ·have hk':k=ds.length:=by have:¬k < ds.length:=A1 ht;omega
  subst hk'
  rw [L27]
  have hv0:i < s.length:=by omega
  refine k6 (k2 (k2 ?_))
  refine A4 (A3 (A5 Z Z) Z (A3 (R5 Z Z) Z (A3 (A5 Z Z) Z (B0 Z Z Z Z (fun hg=>by rw [hg];exact A5 Z Z) ?_))));refine B0 Z Z Z Z (fun hg=>by rw [hg];exact A5 Z Z) ?_;refine B0 Z Z Z Z (fun hg=>by have hq:=hg;(try simp at hq);rw [hg];exact L5 Z Z (by omega) (gD hv0)) ?_;refine B0 Z Z Z Z (fun hg=>by rw [hg];exact I1 Z Z) ?_;refine B0 Z Z Z Z (fun hg=>by rw [hg];exact A5 Z Z) ?_;refine O4 Z Z Z (.gd (.val _)) Z (fun hg=>by obtain ⟨hg1,hg2⟩:=Y0 hg;(try rw [hg1]);(try rw [hg2]);exact A5 Z Z) ?_;refine O4 Z Z Z (.gd (.val _)) Z (fun hg=>by obtain ⟨hg1,hg2⟩:=Y0 hg;(try rw [hg1]);(try rw [hg2]);exact A5 Z Z) ?_;refine O4 Z Z Z (.gd (.val _)) Z (fun hg=>by have hq:=hg;(try simp at hq);obtain ⟨hg1,hg2⟩:=Y0 hg;(try rw [hg1]);(try rw [hg2]);exact C6 Z Z (by omega)) ?_;refine O4 Z Z Z (.gd (.val _)) Z (fun hg=>by obtain ⟨hg1,hg2⟩:=Y0 hg;(try rw [hg1]);(try rw [hg2]);exact R5 Z Z) ?_;refine B0 Z Z Z Z (fun hg=>by rw [hg];exact B5 Z (fun h=>by first | rfl | (rw [h];rfl)) (fun h=>by first | rfl | (rw [h];rfl))) ?_;refine A3 (B5 Z (fun h=>by first | rfl | (rw [h];rfl)) (fun h=>by first | rfl | (rw [h];rfl))) Z ?_;refine A7 ?_
  refine k1 ?_
  have hd0:(s.drop i).head?=some (s.getD i 0):=by rw [List.head?_drop,gD hv0]
  simp only [L1,or_pick]
  have hbad:(L6 (s.drop i)=[]∨((s.drop i).head?=some 48∧1 < (L6 (s.drop i)).length)∨2147483647 < A43 (L6 (s.drop i)))↔(2147483647 < ((min (A43 ds) 2147483648:Nat):Int)∨(((s.getD i 0).toNat:Int)=48∧(i:Int)+1 < ((i+ds.length:Nat):Int))):=by
   rw [←hds,hd0]
   have e1:ds≠[]:=fun e=>hz (by rw [e];rfl)
   have e2:(some (s.getD i 0)=some 48)↔((s.getD i 0).toNat:Int)=48:=by
    rw [Option.some.injEq,←UInt8.toNat_inj]
    have:(48:UInt8).toNat=48:=rfl
    omega
   simp only [e1,false_or,e2]
   omega
  refine B4 rfl (fun ht=>?_) (fun ht=>?_)
  ·have h1:=A0 ht
   refine k2 ?_
   refine A4 (A3 (A6 Z Z) Z (A3 (A6 Z Z) Z (A3 (A6 Z Z) Z (A7 ?_))))
   refine k1 (k10 (k11 ?_))
   refine B8 (rs:=[F2 0,F2 0,E3 false]) (ret3 Z Z Z Z Z Z Z) ?_
   unfold G55 a8
   rw [if_pos (hbad.2 (by first | exact h1 | simpa using h1))]
  ·have h1:=A1 ht
   have h2:¬(L6 (s.drop i)=[]∨((s.drop i).head?=some 48∧1 < (L6 (s.drop i)).length)∨2147483647 < A43 (L6 (s.drop i))):=fun hh=>h1 (by first | exact hbad.1 hh | simpa using hbad.1 hh)
   refine k5 (k1 (k2 ?_))
   refine A4 (A3 (A5 Z Z) Z (A3 (A5 Z Z) Z (A3 (A6 Z Z) Z (A3 (A6 Z Z) Z (A3 (A6 Z Z) Z (A7 ?_))))))
   refine k1 (k10 ?_)
   refine B8 (rs:=[F2 ((min (A43 ds) 2147483648:Nat):Int),F2 ((i+ds.length:Nat):Int),E3 true]) (ret3 Z Z Z Z Z Z Z) ?_
   unfold G55 a8
   rw [if_neg h2,←hds]
   have h3:A43 ds≤2147483647:=by
    rw [←hds] at h2
    by_cases hv:A43 ds≤2147483647
    ·exact hv
    ·exact absurd (.inr (.inr (by omega))) h2
   rw [show min (A43 ds) 2147483648=A43 ds by omega]
def G56 (s:Str) (i:Nat):List PV:=match t7 (s.drop i) with
 | none=>[F2 0,F2 0,F2 0,E3 false]
 | some (a,n,k)=>[F2 a,F2 n,F2 ((i+k:Nat):Int),E3 true]
theorem D37 {s:Str} {i n k:Nat} (h:a8 (s.drop i)=some (n,k)):G55 s i=[F2 n,F2 ((i+k:Nat):Int),E3 true]:=by unfold G55;rw [h]
theorem D38 {s:Str} {i:Nat} (h:a8 (s.drop i)=none):G55 s i=[F2 0,F2 0,E3 false]:=by unfold G55;rw [h]
theorem F91 (s:Str) (i:Nat) (hi:i≤s.length) (hs:s.length≤1073741824):FnOk Tryz.prog 258 [G7 s,F2 i] (fun rs=>rs=G56 s i):=by
 have hc:=B02 s i hi hs
 cases h1:a8 (s.drop i) with
 | none =>
  rw [D38 h1] at hc
  refine FnOk.intro Tryz.func258 (by decide) Z Z Z Z ?_
  refine k2 ?_
  refine A4 (A3 (A6 Z Z) Z (A3 (A6 Z Z) Z (A3 (A6 Z Z) Z (A3 (A6 Z Z) Z (A7 ?_)))))
  refine k1 (k2 ?_)
  refine A4 (A3 (A5 Z Z) Z (A3 (A5 Z Z) Z (C1 (hc) Z Z Z ?_)));rintro _ rfl;refine A3 (A5 Z Z) Z (A3 (B3 Z Z) Z (A3 (B3 Z Z) Z (A3 (B3 Z Z) Z (A3 (A6 Z Z) Z (A3 (A6 Z Z) Z (A3 (A6 Z Z) Z (A7 ?_)))))))
  refine k1 (k2 (k2 ?_))
  refine A4 (A3 (A5 Z Z) Z (A3 (F0 Z) Z (A7 ?_)))
  refine k1 ?_
  refine B4 rfl (fun ht=>?_) (fun ht=>?_)
  ·refine k2 ?_
   refine A4 (A3 (A6 Z Z) Z (A3 (A6 Z Z) Z (A3 (A6 Z Z) Z (A3 (A6 Z Z) Z (A7 ?_)))))
   refine k1 (k10 (k11 ?_))
   exact B8 (ret4 rfl rfl rfl rfl rfl rfl rfl rfl rfl) (by unfold G56 t7;rw [h1])
  ·cases ht
 | some p =>
  obtain ⟨a,k⟩:=p
  rw [D37 h1] at hc
  obtain ⟨_,_,hk0,hk1,ha⟩:=F89 h1
  rw [L05] at hk1
  have hget:(s.drop i)[k]?=s[i+k]?:=by rw [L25]
  have hdd:(s.drop i).drop (k+1)=s.drop (i+k+1):=by rw [List.drop_drop];rfl
  have hcm2:decide (((i+k:Nat):Int) < (s.length:Int)∧((s.getD (i+k) 0).toNat:Int)=44)=decide (s[i+k]?=some 44):=by
   have:(44:UInt8).toNat=44:=rfl
   congr 1
   by_cases hlt:i+k < s.length
   ·rw [gD hlt,Option.some.injEq,←UInt8.toNat_inj]
    apply propext;constructor<;>intro h<;>omega
   ·rw [L19 (by omega)]
    apply propext;constructor<;>intro h
    ·omega
    ·cases h
  have hcase:(s[i+k]?=some 44∧a8 (s.drop (i+k+1))=none)∨(∃c e,((∃kb,s[i+k]?=some 44∧a8 (s.drop (i+k+1))=some (c,kb)∧e=k+1+kb)∨(s[i+k]?≠some 44∧c=1∧e=k))∧i+e≤s.length∧c≤2147483647∧t7 (s.drop i)=D55 (s.drop i) a c e):=by
   by_cases hcm:s[i+k]?=some 44
   ·have hlt:=(List.getElem?_eq_some_iff.1 hcm).1
    cases h2:a8 (s.drop (i+k+1)) with
    | none=>exact .inl ⟨hcm,rfl⟩
    | some q =>
     obtain ⟨c,kb⟩:=q
     obtain ⟨_,_,hk2,hk3,hc2⟩:=F89 h2
     rw [L05] at hk3
     refine .inr ⟨c,k+1+kb,.inl ⟨kb,hcm,rfl,rfl⟩,by omega,hc2,?_⟩
     unfold t7
     rw [h1];dsimp only
     rw [hget,if_pos hcm,hdd,h2]
   ·refine .inr ⟨1,k,.inr ⟨hcm,rfl,rfl⟩,by omega,by omega,?_⟩
    unfold t7
    rw [h1];dsimp only
    rw [hget,if_neg hcm]
  rcases hcase with ⟨hcm,h2⟩ | ⟨c,e,hce,hel,hcb,hfin⟩
  ·have hlt:=(List.getElem?_eq_some_iff.1 hcm).1
   have hc2:=B02 s (i+k+1) (by omega) hs
   rw [D38 h2,show ((i+k+1:Nat):Int)=((i+k:Nat):Int)+1 by omega] at hc2
   refine FnOk.intro Tryz.func258 (by decide) Z Z Z Z ?_
   refine k2 ?_
   refine A4 (A3 (A6 Z Z) Z (A3 (A6 Z Z) Z (A3 (A6 Z Z) Z (A3 (A6 Z Z) Z (A7 ?_)))))
   refine k1 (k2 ?_)
   refine A4 (A3 (A5 Z Z) Z (A3 (A5 Z Z) Z (C1 (hc) Z Z Z ?_)));rintro _ rfl;refine A3 (A5 Z Z) Z (A3 (B3 Z Z) Z (A3 (B3 Z Z) Z (A3 (B3 Z Z) Z (A3 (A6 Z Z) Z (A3 (A6 Z Z) Z (A3 (A6 Z Z) Z (A7 ?_)))))))
   refine k1 (k2 (k2 ?_))
   refine A4 (A3 (A5 Z Z) Z (A3 (F0 Z) Z (A7 ?_)))
   refine k1 ?_
   refine B4 rfl (fun ht=>?_) (fun ht=>?_)
   ·cases ht
   refine k5 (k1 (k2 ?_))
   refine A4 (A3 (A6 Z Z) Z (A7 ?_))
   refine k1 (k2 (k2 ?_))
   refine A4 (A3 (A5 Z Z) Z (A3 (A5 Z Z) Z (A3 (E7 Z) Z (A3 (E6 Z Z) Z (A3 (A5 Z Z) Z (B0 Z Z Z Z (fun hg=>by rw [hg];exact A5 Z Z) ?_))))));refine B0 Z Z Z Z (fun hg=>by rw [hg];exact A5 Z Z) ?_;refine B0 Z Z Z Z (fun hg=>by have hq:=hg;(try simp at hq);rw [hg];exact L5 Z Z (by omega) (gD (by omega))) ?_;refine B0 Z Z Z Z (fun hg=>by rw [hg];exact I1 Z Z) ?_;refine A3 (B5 Z (fun h=>by first | rfl | (rw [h];rfl)) (fun h=>by first | rfl | (rw [h];rfl))) Z ?_;refine A7 ?_
   simp only [L1,L01]
   rw [hcm2]
   refine k1 ?_
   refine B4 rfl (fun ht=>?_) (fun ht=>?_)
   ·refine k2 ?_
    refine A4 (A3 (A5 Z Z) Z (A3 (A5 Z Z) Z (A3 (C6 Z Z (by omega)) Z (C1 (hc2) Z Z Z ?_))));rintro _ rfl;refine A3 (A5 Z Z) Z (A3 (B3 Z Z) Z (A3 (B3 Z Z) Z (A3 (B3 Z Z) Z (A3 (A6 Z Z) Z (A3 (A6 Z Z) Z (A3 (A6 Z Z) Z (A7 ?_)))))))
    refine k1 (k2 ?_)
    refine A4 (A3 (A5 Z Z) Z (A3 (F0 Z) Z (A7 ?_)))
    refine k1 ?_
    refine B4 rfl (fun ht=>?_) (fun ht=>?_)
    ·refine k2 ?_
     refine A4 (A3 (A6 Z Z) Z (A3 (A6 Z Z) Z (A3 (A6 Z Z) Z (A3 (A6 Z Z) Z (A7 ?_)))))
     refine k1 (k10 (k11 ?_))
     refine B8 (rs:=[F2 0,F2 0,F2 0,E3 false]) (ret4 Z Z Z Z Z Z Z Z Z) ?_
     unfold G56 t7
     rw [h1];dsimp only
     rw [hget,if_pos hcm,hdd,h2]
    ·cases ht
   ·exact absurd hcm (A1 ht)
  ·obtain ⟨st,hst⟩:∃st:Int,st=if 0 < c then (a:Int) - 1 else a:=⟨_,rfl⟩
   have hstb:-1≤st∧st≤2147483647:=by rw [hst];split<;>omega
   have hrc:=D33 st c (by omega) (by omega)
   refine FnOk.intro Tryz.func258 (by decide) Z Z Z Z ?_
   refine k2 ?_
   refine A4 (A3 (A6 Z Z) Z (A3 (A6 Z Z) Z (A3 (A6 Z Z) Z (A3 (A6 Z Z) Z (A7 ?_)))))
   refine k1 (k2 ?_)
   refine A4 (A3 (A5 Z Z) Z (A3 (A5 Z Z) Z (C1 (hc) Z Z Z ?_)));rintro _ rfl;refine A3 (A5 Z Z) Z (A3 (B3 Z Z) Z (A3 (B3 Z Z) Z (A3 (B3 Z Z) Z (A3 (A6 Z Z) Z (A3 (A6 Z Z) Z (A3 (A6 Z Z) Z (A7 ?_)))))))
   refine k1 (k2 (k2 ?_))
   refine A4 (A3 (A5 Z Z) Z (A3 (F0 Z) Z (A7 ?_)))
   refine k1 ?_
   refine B4 rfl (fun ht=>?_) (fun ht=>?_)
   ·cases ht
   refine k5 (k1 (k2 ?_))
   refine A4 (A3 (A6 Z Z) Z (A7 ?_))
   refine J8 ?_
   refine u9 [(0,J3 s),(1,C0 i),(8,C0 a),(9,C0 ((i+e:Nat):Int)),(11,C0 c)] [] ?_ ?_
   ·refine k2 ?_
    refine A4 (A3 (A5 Z Z) Z (A3 (A5 Z Z) Z (A3 (E7 Z) Z (A3 (E6 Z Z) Z (A3 (A5 Z Z) Z (B0 Z Z Z Z (fun hg=>by rw [hg];exact A5 Z Z) ?_))))));refine B0 Z Z Z Z (fun hg=>by rw [hg];exact A5 Z Z) ?_;refine B0 Z Z Z Z (fun hg=>by have hq:=hg;(try simp at hq);rw [hg];exact L5 Z Z (by omega) (gD (by omega))) ?_;refine B0 Z Z Z Z (fun hg=>by rw [hg];exact I1 Z Z) ?_;refine A3 (B5 Z (fun h=>by first | rfl | (rw [h];rfl)) (fun h=>by first | rfl | (rw [h];rfl))) Z ?_;refine A7 ?_
    simp only [L1,L01]
    rw [hcm2]
    refine k1 ?_
    refine B4 rfl (fun ht=>?_) (fun ht=>?_)
    ·have hcm:=A0 ht
     have hlt:=(List.getElem?_eq_some_iff.1 hcm).1
     rcases hce with ⟨kb,_,h2,he⟩ | ⟨hn,_⟩
     ·have hc2:=B02 s (i+k+1) (by omega) hs
      rw [D37 h2,show ((i+k+1:Nat):Int)=((i+k:Nat):Int)+1 by omega,show i+k+1+kb=i+e by omega] at hc2
      refine k2 ?_
      refine A4 (A3 (A5 Z Z) Z (A3 (A5 Z Z) Z (A3 (C6 Z Z (by omega)) Z (C1 (hc2) Z Z Z ?_))));rintro _ rfl;refine A3 (A5 Z Z) Z (A3 (B3 Z Z) Z (A3 (B3 Z Z) Z (A3 (B3 Z Z) Z (A3 (A6 Z Z) Z (A3 (A6 Z Z) Z (A3 (A6 Z Z) Z (A7 ?_)))))))
      refine k1 (k2 ?_)
      refine A4 (A3 (A5 Z Z) Z (A3 (F0 Z) Z (A7 ?_)))
      refine k1 ?_
      refine B4 rfl (fun ht=>?_) (fun ht=>?_)
      ·cases ht
      refine k5 (k1 ?_)
      exact K60 ⟨le1 rfl,le1 rfl,le1 rfl,le1 rfl,le1 rfl,trivial⟩ trivial
     ·exact absurd hcm hn
    ·have hcm:=A1 ht
     rcases hce with ⟨kb,h3,_⟩ | ⟨_,h2,h3⟩
     ·exact absurd h3 hcm
     ·subst h2;subst h3
      refine k5 (k1 ?_)
      exact K60 ⟨le1 rfl,le1 rfl,le1 rfl,le1 rfl,le1 rfl,trivial⟩ trivial
   refine u9 [(0,J3 s),(1,C0 i),(8,C0 st),(9,C0 ((i+e:Nat):Int)),(11,C0 c)] [] ?_ ?_
   ·refine k2 ?_
    refine A4 (A3 (A5 Z Z) Z (A3 (R5 Z Z) Z (A7 ?_)))
    refine k1 ?_
    refine B4 rfl (fun ht=>?_) (fun ht=>?_)
    ·have h3:(0:Int) < (c:Int):=A0 ht
     rw [if_pos (by omega)] at hst
     skip
     refine A4 (A3 (A5 Z Z) Z (A3 (Q4 Z Z (by omega)) Z (A3 (A6 Z Z) Z (A7 ?_))))
     rw [←hst]
     refine k1 ?_
     exact K60 ⟨le1 rfl,le1 rfl,le1 rfl,le1 rfl,le1 rfl,trivial⟩ trivial
    ·have h3:¬(0:Int) < (c:Int):=A1 ht
     rw [if_neg (by omega)] at hst
     rw [hst]
     refine k5 (k1 ?_)
     exact K60 ⟨le1 rfl,le1 rfl,le1 rfl,le1 rfl,le1 rfl,trivial⟩ trivial
   unfold D55 at hfin
   rw [←hst] at hfin
   refine k2 (k2 ?_)
   refine D4 (by kernel_rfl) (by kernel_rfl) (B1 (A5 Z Z) Z Z (B1 (A5 Z Z) Z Z (B1 (K9 (hrc) Z Z) Z Z (B1 (A5 Z Z) Z Z (B1 (A5 Z Z) Z Z (B1 (A5 Z Z) Z Z (B1 (C63 Z Z Z (by omega) (by omega) (by omega)) Z Z (B1 (A89 Z Z) Z Z (L4 ?_)))))))))
   rw [show ((i:Int)).toNat=i by omega,show (((i+e:Nat):Int)).toNat - i=e by omega]
   refine k1 ?_
   refine B4 rfl (fun ht=>?_) (fun ht=>?_)
   ·have h3:¬J0 st c=(s.drop i).take e:=A0 ht
    refine k2 ?_
    refine A4 (A3 (A6 Z Z) Z (A3 (A6 Z Z) Z (A3 (A6 Z Z) Z (A3 (A6 Z Z) Z (A7 ?_)))))
    refine k1 (k10 (k11 ?_))
    refine B8 (rs:=[F2 0,F2 0,F2 0,E3 false]) (ret4 Z Z Z Z Z Z Z Z Z) ?_
    rw [if_neg h3] at hfin
    unfold G56;rw [hfin]
   ·have h3:J0 st c=(s.drop i).take e:=Decidable.not_not.1 (A1 ht)
    refine k5 (k1 (k2 ?_))
    refine A4 (A3 (A5 Z Z) Z (A3 (A5 Z Z) Z (A3 (A5 Z Z) Z (A3 (A6 Z Z) Z (A3 (A6 Z Z) Z (A3 (A6 Z Z) Z (A3 (A6 Z Z) Z (A7 ?_))))))))
    refine k1 (k10 ?_)
    refine B8 (rs:=[F2 st,F2 c,F2 ((i+e:Nat):Int),E3 true]) (ret4 Z Z Z Z Z Z Z Z Z) ?_
    rw [if_pos h3] at hfin
    unfold G56;rw [hfin]
end Go.Proofs.YtgejaedjnbjpoaaGreatDoor
