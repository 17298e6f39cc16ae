/- Walks of the program's functions. -/
import Derived.Test.YtbiadkkamhpdnaaGreatDoorFc
import Derived.Test.YtbiadkkamhpdnaaGreatDoorFs
import Derived.Test.YtbiadkkamhpdnaaGreatDoorFb
import Derived.Test.YtbiadkkamhpdnaaGreatDoorFa
set_option linter.unusedSimpArgs false
namespace Go.Proofs.YtbiadkkamhpdnaaGreatDoor
open Go Go.AL
set_option maxRecDepth 100000
set_option maxHeartbeats 1000000
theorem tid_old {gf:Fr} {ob:Obs} (names:List Str) (s:Str) (hs:s∈names) (h0:C1 ob 710=some (.box [.mut 711,.buf 712 Str 1 M6 names])) (h1:C1 ob 711=some (.map Str A99 (x8 names 0))) :
  AL.Met Tryz.prog 218 [.one (.ref 710 0),.one (.p (.v (.string ⟨s.toArray⟩)))] gf ob [] (fun rs ob'=>rs=[.one (.p (.v (.int .i64 (G9 names s 0))))]∧ob'=ob):=by
 have hg:=E88 s names 0 hs
 refine AL.Met.intro Tryz.func218 (by decide) Z Z Z ?_
 refine k2 (A3 (A7 Z Z (A5 ?_)));refine k1 (k2 (A3 (A4 Z Z (A6 (C8 Z) Z (A6 (A8 Z) Z (A6 (B4 Z h0 Z) Z (A4 Z Z (A6 (F81 (s) (r:=some (.v (.int .i64 (G9 names s 0)))) Z h1 Z D47 D48 (hg)) Z (A4 Z Z (J4 Z Z Z (J4 Z Z Z (A7 Z Z (A7 Z Z (A5 ?_))))))))))))));refine k1 (k2 (k2 (A3 (A4 Z Z (A6 (M3 Z) Z (A5 ?_))))));refine k1 ?_;refine B5 rfl (fun ht=>?_) (fun ht=>?_)
 ·cases ht
 refine k5 (k1 (k2 (A3 (A4 Z Z (A7 Z Z (A5 ?_))))));refine k1 (k10 ?_)
 exact X6 (A90 rfl rfl) (by repeat (first | exact F8 | refine F9 rfl ?_ | refine M1 _ ?_)) (fun _ _ h=>h) ⟨rfl,rfl⟩
theorem tid_new {gf:Fr} {ob:Obs} (names:List Str) (s:Str) (hs:s∉names) (hl:names.length≤1073741823) (h0:C1 ob 710=some (.box [.mut 711,.buf 712 Str 1 M6 names])) (h1:C1 ob 711=some (.map Str A99 (x8 names 0)))
  (h2:C1 ob 712=some (.spare names.length 1 9)) :
  AL.Met Tryz.prog 218 [.one (.ref 710 0),.one (.p (.v (.string ⟨s.toArray⟩)))] gf ob [712] (fun rs ob'=>rs=[.one (.p (.v (.int .i64 names.length)))]∧ob'=(710,.box [.mut 711,.buf 712 Str 1 M6 (names++[s])])::(712,.spare (names++[s]).length 1 9)::Obs.forget 712 ((711,.map Str A99 (x8 names 0++[(s,.v (.int .i64 names.length))]))::ob)):=by
 have hg:=D93 s names 0 hs
 refine AL.Met.intro Tryz.func218 (by decide) Z Z Z ?_
 refine k2 (A3 (A7 Z Z (A5 ?_)));refine k1 (k2 (A3 (A4 Z Z (A6 (C8 Z) Z (A6 (A8 Z) Z (A6 (B4 Z h0 Z) Z (A4 Z Z (A6 (F81 (s) (r:=none) Z h1 Z D47 D48 (hg)) Z (A4 Z Z (J4 Z Z Z (J4 Z Z Z (A7 Z Z (A7 Z Z (A5 ?_))))))))))))));refine k1 (k2 (k2 (A3 (A4 Z Z (A6 (M3 Z) Z (A5 ?_))))));refine k1 ?_;refine B5 rfl (fun ht=>?_) (fun ht=>?_)
 ·refine k2 (A3 (A4 Z Z (A6 (C8 Z) Z (A6 (A8 Z) Z (A6 (B4 Z h0 Z) Z (A6 (V1 Z (.buf _ _ _ _ _)) Z (A7 Z Z (A5 ?_))))))));refine k1 (k2 (A3 (A4 Z Z (A6 (C8 Z) Z (A6 (A8 Z) Z (A6 (B4 Z h0 Z) Z (A4 Z Z (A4 Z Z (G1 (I36 (s) Z h1 Z Z Z D47 D48 (hg)) (A5 ?_))))))))));refine k1 ?_
  have h0':C1 ((711,Ob.map Str A99 (x8 names 0++[(s,.v (.int .i64 names.length))]))::ob) 710=some (.box [.mut 711,.buf 712 Str 1 M6 names]):=by rw [B0 (by decide)];exact h0
  have h2':C1 ((711,Ob.map Str A99 (x8 names 0++[(s,.v (.int .i64 names.length))]))::ob) 712=some (.spare names.length 1 9):=by rw [B0 (by decide)];exact h2
  have h0'':C1 ((712,Ob.spare (names++[s]).length 1 9)::Obs.forget 712 ((711,Ob.map Str A99 (x8 names 0++[(s,.v (.int .i64 names.length))]))::ob)) 710=some (.box [.mut 711,.p (.list Str 1 M6 names)]):=by
   rw [B0 (by decide),P2,h0'];rfl
  refine A3 (A4 Z Z (A4 Z Z (A6 (C8 Z) Z (A6 (A8 Z) Z (A6 (B4 Z h0' Z) Z (A4 Z Z (A6 (C9 (c:=M6) (ys:=[s]) (E0 Z Z Z Z G6) Z Z Z) Z (C2 (H4 Z h2' Z (.pure _ _ _ _) (by (simp only [J16,J19];omega)) Z) Z (A6 (C8 Z) Z (A6 (A8 Z) Z (G1 (B7 TySz.out Z h0'' Z Z Z Z) (A5 ?_))))))))))));refine k1 (k2 (A3 (A4 Z Z (A7 Z Z (A5 ?_)))));refine k1 (k10 ?_)
  exact X6 (A90 rfl rfl) (by repeat (first | exact F8 | refine F9 rfl ?_ | refine M1 _ ?_)) (fun _ _ h=>h) ⟨rfl,rfl⟩
 ·cases ht
theorem G76 (files:List (List Str)) (i m:Nat):(O3 files i).all (TC.free m)=true:=by
 rw [List.all_eq_true]
 intro t ht
 unfold O3 at ht
 obtain ⟨r,_,rfl⟩:=List.mem_map.1 ht
 split<;>rfl
theorem H85 {files:List (List Str)} {i:Nat} (b x:TC) (m:Nat):(((O3 files i).set i b).map (TC.forget m)).set i x=(O3 files i).set i x:=by
 have e1:(O3 files i).map (TC.forget m)=O3 files i:=by
  unfold O3
  rw [J44]
  apply List.map_congr_left
  intro r _
  simp only [Function.comp]
  split<;>rfl
 rw [List.map_set,e1,List.set_set]
theorem G77 {files:List (List Str)} {i:Nat} (b x:TC) (m m':Nat):((((O3 files i).set i b).map (TC.forget m)).map (TC.forget m')).set i x=(O3 files i).set i x:=by
 have e1:∀m,(O3 files i).map (TC.forget m)=O3 files i:=by
  intro m
  unfold O3
  rw [J44]
  apply List.map_congr_left
  intro r _
  simp only [Function.comp]
  split<;>rfl
 rw [List.map_set,e1,List.map_set,e1,List.set_set]
theorem E75 (files:List (List Str)) (hn:files.length≤1048576) (hl:files.flatten.length≤536870911):FnOk Tryz.prog 175 [pStrss files] (fun rs=>rs=[pIntss (files.map (J6 (D8 files))),A12 (D8 files)]):=by
 refine FnOk.intro Tryz.func175 (by decide) Z Z Z Z ?_
 refine k2 (A3 (A7 Z Z (A7 Z Z (A5 ?_))));refine k1 (k2 (A3 (C2 (H74 711 Str A99 Z) Z (A6 (I1 Z) Z (C2 (T8 710 Z Z Z) Z (A7 Z Z (A5 ?_)))))));refine k1 (k2 (H5 (I89 712 Str 1 M6 9 (kb:=710) (o:=1) Z Z Z) ?_))
 refine A3 (A4 Z Z (E4 Z Z (C2 (W2 20 Unit (fun _ _=>.v (.slice none 0 0)) () Z Z (by omega) (by omega) (fun _=>by first | exact ⟨⟨rfl,rfl⟩,trivial⟩ | exact ⟨N3 _ _ _,trivial⟩) (by first | rfl | (simp [H6,I4,Ob.free,SV.free,S1.free,TC.free]<;>rfl))) Z ?_)));refine A7 Z Z (A5 ?_);refine k1 (k2 (k2 (H5 (I96 20 Z) ?_)))
 have hz:((List.replicate ((files.length:Nat):Int).toNat ()).map fun x=>TC.p ((fun (_:Unit) (_:Nat)=>Cell.v (.slice none 0 0)) x 0))=O3 files 0:=by
  rw [J21,←H10];simp
 have hz2:(List.replicate ((files.length:Nat):Int).toNat ()).length=files.length:=by simp
 rw [hz,hz2]
 refine A3 (A4 Z Z (E4 Z Z (A4 Z Z (A5 ?_))));refine k1 (k3 ?_);refine D2 (X:=Nat) (fun i=>([(4,.s (.one (.ref 710 0))),(5,.s (.one (.mut 20))),(16,C0 (List Str) 1 strsC files),(17,B6 files.length),(18,B6 i)],[(710,.box [.mut 711,.buf 712 Str 1 M6 (N5 files i 0)]),(711,.map Str A99 (x8 (N5 files i 0) 0)),(712,.spare (N5 files i 0).length 1 9),(20,.tarr files.length 1 (O3 files i))])) (fun i=>i≤files.length) (fun i=>files.length - i) 0 (Nat.zero_le _) ?_ ?_
 ·rw [show N5 files 0 0=[] from rfl]
  exact I81 ⟨le1 rfl,le1 rfl,le1 rfl,le1 rfl,le1 rfl,trivial⟩ ⟨rfl,rfl,rfl,rfl,trivial⟩
 intro i hi
 dsimp only at hi ⊢
 refine k2 (A3 (F4 Z Z Z (A5 ?_)));refine k1 (k2 ?_);refine B5 rfl (fun ht=>?_) (fun ht=>?_)
 ·have hlt:i < files.length:=by have:=A0 ht;omega
  obtain ⟨f,hf⟩:∃f,f=files.getD i []:=⟨_,rfl⟩
  have hv:files[i]?=some f:=by rw [hf];simp [hlt]
  have hfl:f.length≤files.flatten.length:=by
   have h1:f∈files:=J30 hv
   have:∀(fs:List (List Str)),f∈fs→f.length≤fs.flatten.length:=by
    intro fs
    induction fs with
    | nil=>intro h;simp at h
    | cons x r ih =>
     intro h
     simp only [J33,J15]
     rcases List.mem_cons.1 h with rfl | h
     ·omega
     ·have:=ih h;omega
   exact this files h1
  have hrl:(O3 files i).length=files.length:=by simp [O3]
  refine k5 (k1 (k2 (k3 (k2 (A3 (A4 Z Z (A6 (A9 Z (.pure _ _ _ _) Z (by omega) hv) Z (A6 (B3 Z Z) Z (A7 Z Z (A7 Z Z (A5 ?_)))))))))));refine k1 (k2 (A3 (A4 Z Z (E4 Z Z (A4 Z Z (A5 ?_))))));refine k1 (k3 (H5 (J08 713 Int 1 G3 3 (kb:=20) (o:=i) Z (I13 hlt) (by simp [H6,I4,Ob.free,SV.free,S1.free,TC.free,G76];repeat' (first | rfl | constructor))) ?_))
  refine D2 (X:=Nat) (fun j=>([(4,.s (.one (.ref 710 0))),(5,.s (.one (.mut 20))),(6,B6 i),(16,C0 (List Str) 1 strsC files),(17,B6 files.length),(18,B6 i),(23,C0 Str 1 M6 f),(24,B6 f.length),(25,B6 j)],[(20,.tarr files.length 1 ((O3 files i).set i (.buf 713 Int 1 G3 (J6 (D8 files) (f.take j))))),(710,.box [.mut 711,.buf 712 Str 1 M6 (N5 files i j)]),(711,.map Str A99 (x8 (N5 files i j) 0)),(712,.spare (N5 files i j).length 1 9),(713,.spare (J6 (D8 files) (f.take j)).length 1 3)])) (fun j=>j≤f.length) (fun j=>f.length - j) 0 (Nat.zero_le _) ?_ ?_
  ·exact I81 ⟨le1 rfl,le1 rfl,le1 rfl,le1 rfl,le1 rfl,le1 rfl,le1 rfl,le1 rfl,le1 rfl,trivial⟩ ⟨rfl,rfl,rfl,rfl,rfl,trivial⟩
  intro j hj
  dsimp only at hj ⊢
  refine k2 (A3 (F4 Z Z Z (A5 ?_)));refine k1 (k2 ?_);refine B5 rfl (fun ht=>?_) (fun ht=>?_)
  ·have hlt2:j < f.length:=by have:=A0 ht;omega
   obtain ⟨s,hs⟩:∃s,s=f[j]:=⟨_,rfl⟩
   have hvs:f[j]?=some s:=by rw [hs];simp [hlt2]
   have hstep:=F49 files i j s (by rw [←hf];exact hvs)
   obtain ⟨names,hnm⟩:∃names,names=N5 files i j:=⟨_,rfl⟩
   have hnl:=D94 files i j
   obtain ⟨rest,hrest⟩:=D05 files i (j+1)
   obtain ⟨ids,hids⟩:∃ids,ids=J6 (D8 files) (f.take j):=⟨_,rfl⟩
   have hil:ids.length=j:=by rw [hids];simp [J6];omega
   have hnext:J6 (D8 files) (f.take (j+1))=ids++[G9 (D8 files) s 0]:=by
    rw [hids,J22 hlt2,←hs];unfold J6;rw [J28];rfl
   rw [hstep] at hrest
   rw [←hnm] at hstep hnl hrest ⊢
   rw [←hids]
   have hTi:((O3 files i).set i (.buf 713 Int 1 G3 ids))[((i:Nat):Int).toNat]?=some (.buf 713 Int 1 G3 ids):=by
    rw [J21,List.getElem?_set_self (by rw [hrl];omega)]
   have hTi2:(((O3 files i).set i (.buf 713 Int 1 G3 ids)).map (TC.forget 712))[((i:Nat):Int).toNat]?=some (.buf 713 Int 1 G3 ids):=by
    rw [J40,hTi];rfl
   refine k5 (k1 (k2 (k3 (k2 (A3 (A6 (A9 Z (.pure _ _ _ _) Z (by omega) hvs) Z (A6 (B3 Z Z) Z (A7 Z Z (A5 ?_)))))))))
   by_cases hmem:s∈names
   ·have hns:H7 names s=names:=by unfold H7;rw [if_pos hmem]
    rw [hns] at hstep hrest
    have hpl:G9 (D8 files) s 0=G9 names s 0:=by rw [hrest];exact B35 s rest names 0 hmem
    refine K4 ?_
    refine L6 ((9,X0 s)::[(4,.s (.one (.ref 710 0))),(5,.s (.one (.mut 20))),(6,B6 i),(16,C0 (List Str) 1 strsC files),(17,B6 files.length),(18,B6 i),(23,C0 Str 1 M6 f),(24,B6 f.length),(25,B6 j)]) [(20,.tarr files.length 1 ((O3 files i).set i (.buf 713 Int 1 G3 ids))),(710,.box [.mut 711,.buf 712 Str 1 M6 names]),(711,.map Str A99 (x8 names 0)),(712,.spare names.length 1 9),(713,.spare ids.length 1 3)] (I81 ⟨le1 rfl,le1 rfl,le1 rfl,le1 rfl,le1 rfl,le1 rfl,le1 rfl,le1 rfl,le1 rfl,le1 rfl,trivial⟩ ⟨rfl,rfl,rfl,rfl,rfl,trivial⟩) ?_
    refine U8 [12,10,8] [[],[8],[10,8],[12,10,8]] [(8,([],[])),(10,([713],[34])),(12,([],[]))] [(0,[]),(1,[]),(2,[]),(3,[]),(4,[]),(5,[]),(6,[]),(7,[]),(8,[]),(9,[8]),(10,[8]),(11,[10,8]),(12,[10,8])] [(0,[8]),(0,[10,8]),(1,[8]),(1,[10,8]),(2,[8]),(3,[8]),(4,[8]),(5,[8])] (by kernel_rfl) (by kernel_rfl) (E5 Z Z (by kernel_rfl) Z Z (C3 Z Z) (E5 Z Z (by kernel_rfl) Z Z (C3 Z Z) (E5 Z Z (by kernel_rfl) Z Z (C3 Z Z) (E5 Z Z (by kernel_rfl) Z Z (C3 Z Z) (E5 Z Z (by kernel_rfl) Z Z (G8 Z Z Z (by omega) (by omega)) (E5 Z Z (by kernel_rfl) Z Z (L4 Z Z (by first | exact hTi | exact hTi2)) ?_))))));refine E5 Z Z (by kernel_rfl) Z Z (C3 Z Z) (E5 Z Z (by kernel_rfl) Z Z (C3 Z Z) (d9 Z Z (by kernel_rfl) Z Z (r_met (fun gf=>tid_old names s hmem Z Z) Z Z) Z (E5 Z Z (by kernel_rfl) Z Z (C9 (c:=G3) (ys:=[G9 names s 0]) (E0 Z Z Z Z G6) Z Z Z) (d9 Z Z (by kernel_rfl) Z Z (C60 (fun frc hU=>H4 (Z6 hU Z) Z (Z6 hU Z) (.pure _ _ _ _) (by (simp only [J16,J19];omega)) Z)) Z (E5 Z Z (by kernel_rfl) Z Z (G8 Z Z Z (by omega) (by omega)) (d9 Z Z (by kernel_rfl) Z Z (E62 (fun frc hU=>d5 TySz.out (Z6 hU Z) Z (by (simp;omega)) (Z6 hU Z) Z)) Z ?_))))));refine E61 (by kernel_rfl) rfl ?_ ?_
    ·refine L7 Z Z (by kernel_rfl) Z Z (C3 Z Z) (L7 Z Z (by kernel_rfl) Z Z (C3 Z Z) (L7 Z Z (by kernel_rfl) Z Z (C3 Z Z) (L7 Z Z (by kernel_rfl) Z Z (C3 Z Z) (L7 Z Z (by kernel_rfl) Z Z (C3 Z Z) (L7 Z Z (by kernel_rfl) Z Z (C3 Z Z) (L7 Z Z (by kernel_rfl) Z Z (G8 Z Z Z (by omega) (by omega)) (L7 Z Z (by kernel_rfl) Z Z (L4 Z Z (by first | exact hTi | exact hTi2)) ?_)))))));exact D54
    refine L6 [(4,.s (.one (.ref 710 0))),(5,.s (.one (.mut 20))),(6,B6 i),(16,C0 (List Str) 1 strsC files),(17,B6 files.length),(18,B6 i),(23,C0 Str 1 M6 f),(24,B6 f.length),(25,B6 j)] [(20,.tarr files.length 1 ((O3 files i).set i (.buf 713 Int 1 G3 (ids++[G9 names s 0])))),(710,.box [.mut 711,.buf 712 Str 1 M6 (names)]),(711,.map Str A99 (x8 (names) 0)),(712,.spare (names).length 1 9),(713,.spare (ids++[G9 names s 0]).length 1 3)] (by rw [J21 i,H85];exact I81 ⟨le1 rfl,le1 rfl,le1 rfl,le1 rfl,le1 rfl,le1 rfl,le1 rfl,le1 rfl,le1 rfl,trivial⟩ ⟨rfl,rfl,rfl,rfl,rfl,trivial⟩) ?_
    refine A3 (C5 Z Z Z (A4 Z Z (A5 ?_)));refine k1 ?_
    exact ⟨j+1,hlt2,by omega,by rw [hstep,hnext,hpl];exact I81 ⟨le1 rfl,le1 rfl,le1 rfl,le1 rfl,le1 rfl,le1 rfl,le1 rfl,le1 rfl,le1 rfl,trivial⟩ ⟨rfl,rfl,rfl,rfl,rfl,trivial⟩⟩
   ·refine K4 ?_
    have hns:H7 names s=names++[s]:=by unfold H7;rw [if_neg hmem]
    rw [hns] at hstep hrest
    have hkv:x8 (names++[s]) 0=x8 names 0++[(s,.v (.int .i64 (names.length:Int)))]:=by rw [E87];simp only [Int.zero_add]
    have hpl:G9 (D8 files) s 0=names.length:=by
     rw [hrest,B35 s rest (names++[s]) 0 (by simp),D04 s names 0 hmem];omega
    refine L6 ((9,X0 s)::[(4,.s (.one (.ref 710 0))),(5,.s (.one (.mut 20))),(6,B6 i),(16,C0 (List Str) 1 strsC files),(17,B6 files.length),(18,B6 i),(23,C0 Str 1 M6 f),(24,B6 f.length),(25,B6 j)]) [(20,.tarr files.length 1 ((O3 files i).set i (.buf 713 Int 1 G3 (ids)))),(710,.box [.mut 711,.buf 712 Str 1 M6 (names)]),(711,.map Str A99 (x8 (names) 0)),(712,.spare (names).length 1 9),(713,.spare (ids).length 1 3)] (I81 ⟨le1 rfl,le1 rfl,le1 rfl,le1 rfl,le1 rfl,le1 rfl,le1 rfl,le1 rfl,le1 rfl,le1 rfl,trivial⟩ ⟨rfl,rfl,rfl,rfl,rfl,trivial⟩) ?_
    refine U8 [12,10,8] [[],[8],[10,8],[12,10,8]] [(8,([712],[])),(10,([713],[34])),(12,([],[]))] [(0,[]),(1,[]),(2,[]),(3,[]),(4,[]),(5,[]),(6,[]),(7,[]),(8,[]),(9,[8]),(10,[8]),(11,[10,8]),(12,[10,8])] [(0,[8]),(0,[10,8]),(1,[8]),(1,[10,8]),(2,[8]),(3,[8]),(4,[8]),(5,[8])] (by kernel_rfl) (by kernel_rfl) (E5 Z Z (by kernel_rfl) Z Z (C3 Z Z) (E5 Z Z (by kernel_rfl) Z Z (C3 Z Z) (E5 Z Z (by kernel_rfl) Z Z (C3 Z Z) (E5 Z Z (by kernel_rfl) Z Z (C3 Z Z) (E5 Z Z (by kernel_rfl) Z Z (G8 Z Z Z (by omega) (by omega)) (E5 Z Z (by kernel_rfl) Z Z (L4 Z Z (by first | exact hTi | exact hTi2)) ?_))))));refine E5 Z Z (by kernel_rfl) Z Z (C3 Z Z) (E5 Z Z (by kernel_rfl) Z Z (C3 Z Z) (d9 Z Z (by kernel_rfl) Z Z (r_met (fun gf=>tid_new names s hmem (by omega) Z Z Z) Z Z) Z (E5 Z Z (by kernel_rfl) Z Z (C9 (c:=G3) (ys:=[(names.length:Int)]) (E0 Z Z Z Z G6) Z Z Z) (d9 Z Z (by kernel_rfl) Z Z (C60 (fun frc hU=>H4 (Z6 hU Z) Z (Z6 hU Z) (.pure _ _ _ _) (by (simp only [J16,J19];omega)) Z)) Z (E5 Z Z (by kernel_rfl) Z Z (G8 Z Z Z (by omega) (by omega)) (d9 Z Z (by kernel_rfl) Z Z (E62 (fun frc hU=>d5 TySz.out (Z6 hU Z) Z (by (simp;omega)) (Z6 hU Z) Z)) Z ?_))))));refine E61 (by kernel_rfl) rfl ?_ ?_
    ·refine L7 Z Z (by kernel_rfl) Z Z (C3 Z Z) (L7 Z Z (by kernel_rfl) Z Z (C3 Z Z) (L7 Z Z (by kernel_rfl) Z Z (C3 Z Z) (L7 Z Z (by kernel_rfl) Z Z (C3 Z Z) (L7 Z Z (by kernel_rfl) Z Z (C3 Z Z) (L7 Z Z (by kernel_rfl) Z Z (C3 Z Z) (L7 Z Z (by kernel_rfl) Z Z (G8 Z Z Z (by omega) (by omega)) (L7 Z Z (by kernel_rfl) Z Z (L4 Z Z (by first | exact hTi | exact hTi2)) ?_)))))));exact D54
    refine L6 [(4,.s (.one (.ref 710 0))),(5,.s (.one (.mut 20))),(6,B6 i),(16,C0 (List Str) 1 strsC files),(17,B6 files.length),(18,B6 i),(23,C0 Str 1 M6 f),(24,B6 f.length),(25,B6 j)] [(20,.tarr files.length 1 ((O3 files i).set i (.buf 713 Int 1 G3 (ids++[(names.length:Int)])))),(710,.box [.mut 711,.buf 712 Str 1 M6 (names++[s])]),(711,.map Str A99 (x8 (names++[s]) 0)),(712,.spare (names++[s]).length 1 9),(713,.spare (ids++[(names.length:Int)]).length 1 3)] (by rw [J21 i,G77,hkv];exact I81 ⟨le1 rfl,le1 rfl,le1 rfl,le1 rfl,le1 rfl,le1 rfl,le1 rfl,le1 rfl,le1 rfl,trivial⟩ ⟨rfl,rfl,rfl,rfl,rfl,trivial⟩) ?_
    refine A3 (C5 Z Z Z (A4 Z Z (A5 ?_)));refine k1 ?_
    exact ⟨j+1,hlt2,by omega,by rw [hstep,hnext,hpl];exact I81 ⟨le1 rfl,le1 rfl,le1 rfl,le1 rfl,le1 rfl,le1 rfl,le1 rfl,le1 rfl,le1 rfl,trivial⟩ ⟨rfl,rfl,rfl,rfl,rfl,trivial⟩⟩
  ·have hj2:j=f.length:=by have:=A1 ht;omega
   subst hj2
   rw [J32]
   refine k6 (k7 (k7 (k8 Z (k4 (k1 (H5 (Sees.forget 713) ?_))))))
   have hfr:((O3 files i).set i (.buf 713 Int 1 G3 (J6 (D8 files) f))).map (TC.forget 713)=O3 files (i+1):=by rw [hf];exact F50 files i 713 hlt
   have hnr:N5 files (i+1) 0=N5 files i f.length:=by rw [hf];exact G37 files i
   refine L6 [(4,.s (.one (.ref 710 0))),(5,.s (.one (.mut 20))),(16,C0 (List Str) 1 strsC files),(17,B6 files.length),(18,B6 i)] [(710,.box [.mut 711,.buf 712 Str 1 M6 (N5 files (i+1) 0)]),(711,.map Str A99 (x8 (N5 files (i+1) 0) 0)),(712,.spare (N5 files (i+1) 0).length 1 9),(20,.tarr files.length 1 (O3 files (i+1)))] (by rw [hnr,←hfr];exact I81 ⟨le1 rfl,le1 rfl,le1 rfl,le1 rfl,le1 rfl,trivial⟩ ⟨rfl,rfl,rfl,rfl,trivial⟩) ?_
   refine A3 (C5 Z Z Z (A4 Z Z (A5 ?_)));refine k1 ?_
   exact ⟨i+1,hlt,by omega,I81 ⟨le1 rfl,le1 rfl,le1 rfl,le1 rfl,le1 rfl,trivial⟩ ⟨rfl,rfl,rfl,rfl,trivial⟩⟩
 ·have hi2:i=files.length:=by have:=A1 ht;omega
  rw [hi2,G38]
  refine H5 (I97 20 (c:=intsC) (files.map (J6 (D8 files))) Z (by simp) (H11 files)) ?_
  refine H5 (Sees.freeze (k:=20) Z) ?_
  refine H5 (Sees.forget 712) ?_
  refine k6 (k2 (D5 (by kernel_rfl) (by kernel_rfl) (D3 Z Z (D3 Z Z (B1 (C8 Z) Z Z (B1 (A8 Z) Z Z (B1 (B4 Z Z Z) Z Z (B1 (K8 Z Z) Z Z (B1 (K8 Z Z) Z Z (O2 ?_))))))))));refine k1 (k10 ?_)
  exact B9 (y7 rfl rfl rfl rfl rfl) rfl
theorem F28 (files:List (List Str)) (hn:files.length≤1048576) (hl:files.flatten.length≤536870911):FnOk Tryz.prog 108 [pStrss files] (fun rs=>rs=[pIntss (files.map (J6 (D8 files)))]):=by
 refine FnOk.intro Tryz.func108 (by decide) Z Z Z Z ?_
 refine k2 (A3 (A7 Z Z (A5 ?_)));refine k1 (k2 (A3 (A4 Z Z (C6 (E75 files hn hl) Z Z Z ?_))));rintro _ rfl;refine A4 Z Z (J4 Z Z Z (J4 Z Z Z (A7 Z Z (A7 Z Z (A5 ?_)))));refine k1 (k2 (A3 (A4 Z Z (A7 Z Z (A5 ?_)))));refine k1 (k10 ?_)
 exact B9 (I5 rfl rfl rfl) rfl
theorem A91:∀(ls:List (List Int)) (acc:List Merged) (p B:Nat),(∀x∈ls,x.length≤B)→acc.length+ls.length*B≤4096→(G5 acc p ls).2=0
 | [],acc,p,B,_,_=>rfl
 | x::r,acc,p,B,h,hb=>by
  have hx:=h x (by simp)
  rw [J16,J37,Nat.one_mul] at hb
  have hj:=A21 acc x p
  unfold G5
  rw [if_neg (by omega)]
  exact A91 r _ _ B (fun y hy=>h y (by simp [hy])) (by omega)
theorem E76 (p:Nat) (h:p≤32):IntKind.u32.wrap (1*2 ^ (min (p:Int).toNat IntKind.u32.bits))=G4 p:=by
 unfold G4;rw [H00 (n:=(p:Int)) (by omega)]
set_option maxHeartbeats 1000000
theorem F29 (ls:List (List Int)) (B:Nat) (hpos:0 < ls.length) (hn:ls.length≤32) (hB:∀x∈ls,x.length≤B) (hb:ls.length*B≤4096):FnOk Tryz.prog 176 [pIntss ls] (fun rs=>rs=[pMerged (D9 ls).1,J0 0]):=by
 obtain ⟨W,hW⟩:∃W,W=(D9 ls).1:=⟨_,rfl⟩
 have hW2:W=(G5 [] 0 ls).1:=by rw [hW];unfold D9;rw [if_neg (by omega)]
 rw [←hW]
 have h0:∀x,ls[(0:Int).toNat]?=some x→x.length≤4096:=fun x hx=>by
  have h1:=hB x (J30 hx)
  have h2:0 < ls.length:=List.length_pos_of_mem (J30 hx)
  have h3:1*B≤ls.length*B:=J27 _ h2
  omega
 have hx0:0 < ls.length→∃x,ls[(0:Int).toNat]?=some x∧x.length≤4096:=fun h=>⟨ls[0],J14 h,h0 _ (J14 h)⟩
 refine FnOk.intro Tryz.func176 (by decide) Z Z Z Z ?_
 refine k2 (A3 (A7 Z Z (A7 Z Z (A5 ?_))));refine k1 (k2 (k2 ?_))
 obtain ⟨x0,hv0,hxl⟩:=hx0 hpos
 refine A3 (A4 Z Z (E4 Z Z (A6 (R0 Z Z) Z (A4 Z Z (B2 Z Z Z Z (fun hg=>by rw [hg];exact C3 Z Z) ?_)))));refine B2 Z Z Z Z (fun hg=>by rw [hg];exact V1 Z (.pure _ _ _ _)) ?_;refine B2 Z Z Z Z (fun hg=>by rw [hg];exact R0 Z Z) ?_;refine B2 Z Z Z Z (fun hg=>by rw [hg];exact C3 Z Z) ?_;refine P3 Z Z Z (.gd (.val _)) Z (fun hg=>by obtain ⟨hg1,hg2⟩:=n6 hg;(try rw [hg1]);(try rw [hg2]);exact C3 Z Z) ?_;refine P3 Z Z Z (.gd (.val _)) Z (fun hg=>by have hq:=hg;(try simp at hq);obtain ⟨hg1,hg2⟩:=n6 hg;(try rw [hg1]);(try rw [hg2]);exact A9 Z (.pure _ _ _ _) Z (by omega) hv0) ?_;refine P3 Z Z Z (.gd (.val _)) Z (fun hg=>by obtain ⟨hg1,hg2⟩:=n6 hg;(try rw [hg1]);(try rw [hg2]);exact B3 Z Z) ?_;refine P3 Z Z Z (.gd (.val _)) Z (fun hg=>by obtain ⟨hg1,hg2⟩:=n6 hg;(try rw [hg1]);(try rw [hg2]);exact V1 Z (.pure _ _ _ _)) ?_;refine P3 Z Z Z (.gd (.val _)) Z (fun hg=>by obtain ⟨hg1,hg2⟩:=n6 hg;(try rw [hg1]);(try rw [hg2]);exact R0 Z Z) ?_;refine B2 Z Z Z Z (fun hg=>by rw [hg];exact K6 Z (fun h=>by first | rfl | (rw [h];rfl)) (fun h=>by first | rfl | (rw [h];rfl))) ?_;refine J5 Z Z ?_;refine A5 ?_;refine k1 ?_;refine B5 rfl (fun ht=>?_) (fun ht=>?_)
 ·exfalso
  have q1:¬((ls.length:Int) > 32):=by omega
  have q2:¬((x0.length:Int) > 4096):=by omega
  simp [q1,q2] at ht
 refine L6 [(0,C0 (List Int) 1 intsC ls)] [] (I81 ⟨le1 rfl,trivial⟩ trivial) ?_
 refine k5 (k1 (k2 (A3 (A6 (M5 _ 2 mergedC) Z (A5 ?_)))));refine k1 (k2 (k2 (A3 (A4 Z Z (E4 Z Z (A4 Z Z (A5 ?_)))))));refine k1 (k3 (D2 (X:=Nat × List Merged) (fun x=>([(4,C0 Merged 2 mergedC x.2),(23,C0 (List Int) 1 intsC ls),(24,B6 ls.length),(25,B6 x.1)],[])) (fun x=>x.1≤ls.length∧x.2.length≤x.1*B∧W=(G5 x.2 x.1 (ls.drop x.1)).1) (fun x=>ls.length - x.1) (0,[]) ⟨Nat.zero_le _,(by simp),hW2⟩ (I81 ⟨le1 rfl,le1 rfl,le1 rfl,le1 rfl,trivial⟩ trivial) ?_))
 rintro ⟨p,acc⟩ ⟨hp,hal,hw⟩
 dsimp only at hp hal hw ⊢
 have hpB:p*B≤ls.length*B:=J27 _ hp
 refine k2 (A3 (F4 Z Z Z (A5 ?_)));refine k1 (k2 ?_);refine B5 rfl (fun ht=>?_) (fun ht=>?_)
 rotate_left
 ·have hpl:p=ls.length:=by have:=A1 ht;omega
  rw [hpl,J23 (Nat.le_refl _)] at hw
  have hw:W=acc:=hw
  refine k6 (k2 (A3 (A4 Z Z (A7 Z Z (A7 Z Z (A5 ?_))))));refine k1 (k10 ?_)
  exact B9 (y7 rfl rfl rfl rfl rfl) (by rw [hw])
 have hlt:p < ls.length:=by have:=A0 ht;omega
 have hv:ls[p]?=some ls[p]:=by simp [hlt]
 have hx:=hB _ (J26 hlt)
 rw [J20 hlt,G5] at hw
 obtain ⟨x,hxd⟩:∃x,x=ls[p]:=⟨_,rfl⟩
 rw [←hxd] at hv hx hw
 have h1B:1*B≤ls.length*B:=J27 _ hpos
 rw [if_neg (by omega)] at hw
 have hjs:=A21 acc x p
 have hM:=H84 acc x (G4 p) (by omega) (by omega)
 have hres:C62 acc x (G4 p)=O7 acc x p:=rfl
 rw [hres] at hM
 refine k5 (k1 (k2 (k3 (k2 (A3 (A4 Z Z (A6 (A9 Z (.pure _ _ _ _) Z (by omega) hv) Z (A6 (B3 Z Z) Z (A7 Z Z (A7 Z Z (A5 ?_)))))))))));refine k1 (k2 (A3 (A7 Z Z (A5 ?_))));refine k1 (k2 (A3 (A4 Z Z (A4 Z Z (A4 Z Z (A6 (E50 Z Z (by (show (0:Int)≤(p:Int);omega))) Z ?_))))));rw [E76 p (by omega)];refine C6 hM Z Z Z ?_;rintro _ rfl;refine A4 Z Z (J4 Z Z Z (J4 Z Z Z (A7 Z Z (A7 Z Z (A5 ?_)))));refine k1 (k2 (A3 (A4 Z Z (A6 (O6 Z Z) Z (A5 ?_)))));refine k1 ?_;refine B5 rfl (fun ht=>?_) (fun ht=>?_)
 ·cases ht
 refine k5 (k4 (k1 (A3 (C5 Z Z Z (A4 Z Z (A5 ?_))))));refine k1 ?_
 exact ⟨(p+1,O7 acc x p),⟨by dsimp only;omega,by dsimp only;rw [J37];omega,hw⟩,by dsimp only;omega,I81 ⟨le1 rfl,le1 rfl,le1 rfl,le1 rfl,trivial⟩ trivial⟩
theorem D63 (files:List (List Str)) (hn:files.length≤1048576) (hl:files.flatten.length≤536870911):FnOk Tryz.prog 109 [pStrss files] (fun rs=>rs=[A12 (D8 files)]):=by
 refine FnOk.intro Tryz.func109 (by decide) Z Z Z Z ?_
 refine k2 (A3 (A7 Z Z (A5 ?_)));refine k1 (k2 (A3 (A4 Z Z (C6 (E75 files hn hl) Z Z Z ?_))));rintro _ rfl;refine A4 Z Z (J4 Z Z Z (J4 Z Z Z (A7 Z Z (A7 Z Z (A5 ?_)))));refine k1 (k2 (A3 (A4 Z Z (A7 Z Z (A5 ?_)))));refine k1 (k10 ?_)
 exact B9 (I5 rfl rfl rfl) rfl
abbrev S2 (m:Nat):List TC:=J8 intsC m 0 (fun _=>([]:List (List Int)))
abbrev Y9 (names:List Str) (lines:List Int) (n:Nat):Ob:=.box [.p (.list Str 1 M6 names),.p (.list Int 1 G3 lines),.mut 731,.mut 732,.p (.v (.int .i64 n)),.p (.v (.slice none 0 0))]
abbrev t8:Ob:=.box [.p (.v (.int .i64 0)),.p (.v (.slice none 0 0))]
abbrev B18 (names:List Str) (lines ms:List Int) (g:Nat→List (List Int)) (n m:Nat):Obs :=
 (4,t8)::(730,Y9 names lines n)::(731,.arr Int 1 Z5 ms)::(732,.growT 138 m 1 (S2 m))::I3 intsC g (List.range m)
theorem B19 {m k:Nat} (hk:k < 1000):(S2 m).all (TC.free k)=true:=by
 rw [List.all_eq_true]
 intro t ht
 obtain ⟨r,_,rfl⟩:=List.mem_map.1 ht
 rw [if_neg (by omega)]
 simp [TC.free,I2 (show r+1000≠k by omega)]
theorem G78 {names:List Str} {lines ms:List Int} {g:Nat→List (List Int)} {n m:Nat}:I4 708 (B18 names lines ms g n m)=true:=by
 have h1:=A54 (k:=708) (by omega) (List.range m) (fun r _=>by omega) (c:=intsC) (g:=g)
 have h2:=B19 (m:=m) (k:=708) (by omega)
 simp only [I4,Ob.free,h1,h2]
 rfl
theorem H41 {i:Nat} {x y:Ob} {rest:Obs}:∀k o,C1 ((i,x)::rest) k=some o→C1 ((i,x)::(i,y)::rest) k=some o:=by
 intro k o h
 by_cases hk:i=k
 ·subst hk;rw [C7] at h ⊢;exact h
 ·rw [B0 hk] at h;rw [B0 hk,B0 hk];exact h
abbrev chBox (a b c d:Int):Ob:=.box [.p (.v (.int .i64 a)),.p (.v (.int .i64 b)),.p (.v (.int .i64 c)),.p (.v (.int .i64 d))]
set_option maxHeartbeats 1000000
theorem I43 {gf:Fr} (names:List Str) (lines file ms:List Int) (g:Nat→List (List Int)) (n p:Nat) (hl:lines.length≤4096) (hf:file.length≤4096) (hms:ms.length=lines.length) (hp:p < 32) (hpn:p < n) (hg:∀k,(g k).length=n) :
  AL.Met Tryz.prog 110 [.one (.ref 730 0),.one (.p (.v (.int .i64 p))),.one (.p (.list Int 1 G3 file))] gf (B18 names lines ms g n (lines.length+1)) [708]
   (fun rs ob'=>rs=[.one (.p (.v (.int .i64 0)))]∧ob'=B18 names lines ((J7 file lines).foldl (O0 p) ms) ((J7 file lines).foldl (J3 p file) g) n (lines.length+1)):=by
 have hS:=D62 file lines hf hl
 have hwb:=A68 file lines
 have hml:=s6 (F0 0 0 file lines) 0 0 file.length lines.length
 have hwl:=T4 0 0 file lines
 obtain ⟨cs,hcs⟩:∃cs,cs=J7 file lines:=⟨_,rfl⟩
 have hcsl:cs.length≤4097:=by rw [hcs];unfold J7 Y0;omega
 rw [←hcs] at hS hwb ⊢
 refine AL.Met.introH Tryz.func110 (by decide) rfl rfl rfl (fun hH=>?_)
 refine k2 (A3 (A7 Z Z (A5 ?_)));refine k1 (k2 (A3 (A4 Z Z (A4 Z Z (A6 (C8 Z) Z (A6 (A8 Z) Z (E9 Z Z Z Z (C6 (hS) Z Z Z ?_))))))));rintro _ rfl;refine A4 Z Z (J4 Z Z Z (J4 Z Z Z (A7 Z Z (A7 Z Z (A5 ?_)))));refine k1 (k2 (k2 (A3 (A4 Z Z (A6 (O6 Z Z) Z (A5 ?_))))));refine k1 ?_;refine B5 rfl (fun ht=>?_) (fun ht=>?_)
 ·cases ht
 refine k5 (k1 (k2 (k2 (A3 (A4 Z Z (E4 Z Z (A4 Z Z (A5 ?_))))))));refine k1 (k3 ?_);refine H5 (J00 [708] (l:=[(0,.s (.one (.ref 730 0))),(1,B6 p),(2,C0 Int 1 G3 file),(24,C0 Change 4 changeC cs),(25,B6 cs.length),(26,B6 0)]) (ob':=B18 names lines ms g n (lines.length+1)) ⟨le1 rfl,le1 rfl,le1 rfl,le1 rfl,le1 rfl,le1 rfl,trivial⟩ hH (by repeat (first | exact F8 | refine F9 rfl ?_)) (fun _ _ h=>h)) ?_
 refine D2 (X:=Nat) (fun i=>([(0,.s (.one (.ref 730 0))),(1,B6 p),(2,C0 Int 1 G3 file),(24,C0 Change 4 changeC cs),(25,B6 cs.length),(26,B6 i)]++E1 [708] gf,B18 names lines ((cs.take i).foldl (O0 p) ms) ((cs.take i).foldl (J3 p file) g) n (lines.length+1))) (fun i=>i≤cs.length) (fun i=>cs.length - i) 0 (Nat.zero_le _) (I99 fun _ _ h=>h) ?_
 intro i hi
 dsimp only at hi ⊢
 refine k2 (A3 (F4 Z Z Z (A5 ?_)));refine k1 (k2 ?_);refine B5 rfl (fun ht=>?_) (fun ht=>?_)
 rotate_left
 ·have hil:i=cs.length:=by have:=A1 ht;omega
  rw [hil,J32]
  refine k6 (k2 (A3 (A7 Z Z (A5 ?_))));refine k1 (k10 ?_)
  exact X6 (A90 rfl rfl) (by repeat (first | exact F8 | refine F9 rfl ?_)) (fun _ _ h=>h) ⟨rfl,rfl⟩
 have hlt:i < cs.length:=by have:=A0 ht;omega
 have hv:cs[i]?=some cs[i]:=by simp [hlt]
 have hcb:=hwb _ (J26 hlt)
 have hst1:(cs.take (i+1)).foldl (O0 p) ms=O0 p ((cs.take i).foldl (O0 p) ms) cs[i]:=by rw [J22 hlt,J45];rfl
 have hst2:(cs.take (i+1)).foldl (J3 p file) g=J3 p file ((cs.take i).foldl (J3 p file) g) cs[i]:=by rw [J22 hlt,J45];rfl
 have hmi:((cs.take i).foldl (O0 p) ms).length=lines.length:=by
  have key:∀(q:List Change) (ms:List Int),(q.foldl (O0 p) ms).length=ms.length:=by
   intro q
   induction q with
   | nil=>intro ms;rfl
   | cons c r ih=>intro ms;rw [J41,ih,s8]
  rw [key,hms]
 have hgi:∀k,((cs.take i).foldl (J3 p file) g k).length=n:=by
  have key:∀(q:List Change) (g:Nat→List (List Int)),(∀k,(g k).length=n)→∀k,(q.foldl (J3 p file) g k).length=n:=by
   intro q
   induction q with
   | nil=>intro g h;exact h
   | cons c r ih =>
    intro g h
    refine ih _ (fun k=>?_)
    unfold J3
    split
    ·rw [J67];exact h k
    ·exact h k
  exact key _ _ hg
 obtain ⟨m1,hm1⟩:∃m1,m1=(cs.take i).foldl (O0 p) ms:=⟨_,rfl⟩
 obtain ⟨g1,hg1⟩:∃g1,g1=(cs.take i).foldl (J3 p file) g:=⟨_,rfl⟩
 obtain ⟨c,hc⟩:∃c,c=cs[i]:=⟨_,rfl⟩
 rw [←hm1] at hst1 hmi ⊢
 rw [←hg1] at hst2 hgi ⊢
 rw [←hc] at hv hcb hst1 hst2
 obtain ⟨co,col,cn,cnl⟩:=c
 dsimp only at hcb
 obtain ⟨A,rfl⟩:∃A:Nat,co=A:=⟨co.toNat,by omega⟩
 obtain ⟨B,rfl⟩:∃B:Nat,col=B:=⟨col.toNat,by omega⟩
 obtain ⟨C,rfl⟩:∃C:Nat,cn=C:=⟨cn.toNat,by omega⟩
 obtain ⟨D,rfl⟩:∃D:Nat,cnl=D:=⟨cnl.toNat,by omega⟩
 have hfree:∀ms',I4 708 (B18 names lines ms' g1 n (lines.length+1))=true:=fun ms'=>G78
 obtain ⟨hf1,hf2,_⟩:=S9 (hfree m1)
 refine k5 (k1 (k2 (k3 (k2 (A3 (A6 (A9 Z (.pure _ _ _ _) Z (by omega) hv) Z (A6 (F5 Z Z) Z (C2 (F12 708 hf2 (by decide)) Z (G1 (B7 TySz.out Z Z Z Z Z Z) (A5 ?_))))))))))
 rw [hf1]
 refine L6 ([(0,.s (.one (.ref 730 0))),(1,B6 p),(2,C0 Int 1 G3 file),(10,.s (.one (.ref 708 0))),(24,C0 Change 4 changeC cs),(25,B6 cs.length),(26,B6 i)]++E1 [708] gf) ((708,chBox A B C D)::B18 names lines m1 g1 n (lines.length+1)) (I82 ⟨le1 rfl,le1 rfl,le1 rfl,le1 rfl,le1 rfl,le1 rfl,le1 rfl,trivial⟩ (J9 hH) (by repeat (first | exact F8 | refine F9 rfl ?_ | refine x6 _ rfl ?_)) H41) ?_
 refine k2 (k2 (A3 (A6 (A8 Z) Z (E9 Z Z Z Z (A7 Z Z (A5 ?_))))));refine k1 (k3 ?_);refine D2 (X:=Nat) (fun t=>([(0,.s (.one (.ref 730 0))),(1,B6 p),(2,C0 Int 1 G3 file),(10,.s (.one (.ref 708 0))),(11,B6 ((C+t:Nat):Int)),(24,C0 Change 4 changeC cs),(25,B6 cs.length),(26,B6 i)]++E1 [708] gf,(708,chBox A B C D)::B18 names lines (O0 p m1 ⟨A,B,C,t⟩) g1 n (lines.length+1))) (fun t=>t≤D) (fun t=>D - t) 0 (Nat.zero_le _) ?_ ?_
 ·dsimp only
  rw [show ((0:Nat):Int)=0 from rfl,G35]
  exact I82 ⟨le1 rfl,le1 rfl,le1 rfl,le1 rfl,le1 rfl,le1 rfl,le1 rfl,le1 rfl,trivial⟩ (J9 hH) (by repeat (first | exact F8 | refine F9 rfl ?_)) (fun _ _ h=>h)
 intro t ht1
 dsimp only at ht1 ⊢
 have hsl:=s8 p m1 ⟨A,B,C,t⟩
 refine k2 (k2 (A3 (A4 Z Z (A6 (A8 Z) Z (E9 Z Z Z Z (A6 (A8 Z) Z (E9 Z Z Z Z (C5 Z Z Z (F4 Z Z Z (A5 ?_))))))))));refine k1 ?_;refine B5 rfl (fun ht=>?_) (fun ht=>?_)
 ·have hltD:t < D:=by have:=A0 ht;omega
  obtain ⟨q1,q2⟩:=G36 p m1 A B C t (by omega)
  have hv2:(O0 p m1 ⟨A,B,C,t⟩)[((C+t:Nat):Int).toNat]?=some (m1.getD (C+t) 0):=by rw [J21];exact q1
  refine k5 (k1 (k2 (k3 (D5 (by kernel_rfl) (by kernel_rfl) (D3 Z Z (B1 (C8 Z) Z Z (B1 (A8 Z) Z Z (B1 (B4 Z Z Z) Z Z (D3 Z Z (B1 (E2 Z Z Z (by omega) (by (rw [hsl];omega))) Z Z ?_))))))))));refine B1 (P4 Z Z hv2 Z) Z Z (D3 Z Z (B1 (E50 Z Z (by (show (0:Int)≤(p:Int);omega))) Z Z ?_));refine B1 (Z4 Z Z Z (fun _=>rfl)) Z Z (B1 (E2 Z Z Z (by omega) (by (rw [hsl];omega))) Z Z ?_);refine A89 (H0 TySz.out Z Z (by (rw [hsl];omega)) Z Z) Z ?_;refine O2 ?_
  rw [E76 p (by omega)]
  refine k4 (k1 (A3 (A4 Z Z (C5 Z Z Z (A7 Z Z (A5 ?_))))));refine k1 ?_;refine ⟨t+1,by omega,by omega,?_⟩
  rw [←q2]
  refine I82 ⟨le1 rfl,le1 rfl,le1 rfl,le1 rfl,leE rfl (by rw [show ((C+(t+1):Nat):Int)=((C+t:Nat):Int)+1 by omega]),le1 rfl,le1 rfl,le1 rfl,trivial⟩ (J9 hH) (by repeat (first | exact F8 | refine tail_drop rfl ?_ | refine F9 rfl ?_ | refine x6 _ rfl ?_)) ?_
  exact B45 (L:=[(708,_),(4,_),(730,_),(731,_),(732,_)]) ⟨rfl,rfl,rfl,rfl,rfl,trivial⟩ (by repeat (first | exact B13 | refine B14 rfl ?_))
 have htD:t=D:=by have:=A1 ht;omega
 subst htD
 rw [←hst1]
 have hC:C < lines.length+1:=by omega
 have hrow:(S2 (lines.length+1))[C]?=some (.mut (C+1000)):=F72 hC (Nat.zero_le _)
 have hgl:(S2 (lines.length+1)).length=lines.length+1:=D38
 obtain ⟨m2,hm2⟩:∃m2,m2=(cs.take (i+1)).foldl (O0 p) ms:=⟨_,rfl⟩
 rw [←hm2]
 have hob:C1 ((708,chBox A B C t)::B18 names lines m2 g1 n (lines.length+1)) (C+1000)=some (.arr (List Int) 1 intsC (g1 C)):=by
  rw [B0 (by omega),B0 (by omega),B0 (by omega),B0 (by omega),B0 (by omega)]
  exact r9 (List.mem_range.2 hC)
 have hgC:=hgi C
 have eAB:((A:Int)+B).toNat - (A:Int).toNat=B:=by omega
 have hnew:(g1 C).set p ((file.drop A).take B)=(cs.take (i+1)).foldl (J3 p file) g C:=by
  rw [hst2,J3,if_pos (by simp)]
  dsimp only
  rw [eAB,J21]
 have hsame:∀q,q≠C→(cs.take (i+1)).foldl (J3 p file) g q=g1 q:=by
  intro q hq
  rw [hst2,J3,if_neg (by simpa using hq)]
 refine k6 (k7 (k7 (k8 Z (k1 (D5 (by kernel_rfl) (by kernel_rfl) (D3 Z Z (B1 (C8 Z) Z Z (B1 (A8 Z) Z Z (B1 (B4 Z Z Z) Z Z (B1 (A8 Z) Z Z (B1 (B4 Z Z Z) Z Z (B1 (D57 Z Z Z (by omega) (by (first | omega | (rw [J21];omega)))) Z Z (B1 (H77 Z Z (by simpa using hrow)) Z Z (D3 Z Z (D3 Z Z (B1 (A8 Z) Z Z (B1 (B4 Z Z Z) Z Z (B1 (A8 Z) Z Z (B1 (B4 Z Z Z) Z Z (B1 (A8 Z) Z Z (B1 (B4 Z Z Z) Z Z (B1 (U2 Z Z (by omega)) Z Z (B1 (X1 Z (.pure _ _ _ _) Z Z (by omega) (by omega) (by omega)) Z Z ?_)))))))))))))))))))))));refine B1 (E2 Z hob Z (by omega) (by (first | omega | (rw [hgC];omega)))) Z Z (A89 (H0 TySz.out Z hob (by (first | omega | (rw [J21,hgC];omega))) Z Z) Z (O2 ?_))
 rw [eAB,J21,J21,hnew]
 refine k4 (k1 (A3 (C5 Z Z Z (A4 Z Z (A5 ?_)))));refine k1 ?_;refine ⟨i+1,by omega,by omega,?_⟩
 refine I82 ⟨le1 rfl,le1 rfl,le1 rfl,le1 rfl,le1 rfl,le1 rfl,trivial⟩ (J9 hH) (by repeat (first | exact F8 | refine tail_drop rfl ?_ | refine F9 rfl ?_ | refine x6 _ rfl ?_)) ?_
 rw [←hm2]
 obtain ⟨g2,hg2⟩:∃g2,g2=(cs.take (i+1)).foldl (J3 p file) g:=⟨_,rfl⟩
 rw [←hg2] at hsame ⊢
 intro k o hk
 have h1:=F71 (c:=intsC) (g:=g1) (g':=g2) (pre:=[(4,t8),(730,Y9 names lines n),(731,.arr Int 1 Z5 m2),(732,.growT 138 (lines.length+1) 1 (S2 (lines.length+1)))]) rfl (List.mem_range.2 hC) hsame k o hk
 by_cases hkC:C+1000=k
 ·subst hkC;rw [C7] at h1 ⊢;exact h1
 ·rw [B0 hkC] at h1 ⊢
  by_cases h7:708=k
  ·subst h7
   have:C1 ([(4,t8),(730,Y9 names lines n),(731,.arr Int 1 Z5 m2),(732,.growT 138 (lines.length+1) 1 (S2 (lines.length+1)))]++I3 intsC g1 (List.range (lines.length+1))) 708=none:=by
    rw [I6 rfl];exact I33 (by omega)
   rw [this] at h1;cases h1
  ·rw [B0 h7];exact h1
abbrev A00 (names:List Str) (lines ms:List Int) (gs:List (List (List Int))) (n:Nat) (rows:List Row):Obs :=
 [(4,t8),(730,.box [.p (.list Str 1 M6 names),.p (.list Int 1 G3 lines),.p (.list Int 1 Z5 ms),.p (.list (List (List Int)) 1 intssC gs),.p (.v (.int .i64 n)),.buf 733 Row 3 rowC rows]),(733,.spare rows.length 3 69)]
set_option maxHeartbeats 1000000
theorem G79 {gf:Fr} (names file:List Str) (lines ms:List Int) (g:Nat→List (List Int)) (n B:Nat) (hl:file.length≤4096) (hll:lines.length=file.length) (hms:ms.length=file.length) (hn:1≤n∧n≤32) (hB:n*B≤4096)
  (hg:∀k,(g k).length=n∧∀x∈g k,x.length≤B∧∀v∈x,0≤v∧v < (names.length:Int)) (hnm:∀k,k < file.length→0≤lines.getD k 0∧names[(lines.getD k 0).toNat]?=some (file.getD k [])) :
  AL.Met Tryz.prog 111 [.one (.ref 730 0)] gf (A00 names lines ms ((List.range (file.length+1)).map g) n []) [708,733]
   (fun rs ob'=>rs=[.one (.p (.v (.int .i64 0)))]∧ob'=A00 names lines ms ((List.range (file.length+1)).map g) n (S3 names file (ms,g) (file.length+1))):=by
 obtain ⟨gs,hgs⟩:∃gs,gs=(List.range (file.length+1)).map g:=⟨_,rfl⟩
 have hgl:gs.length=file.length+1:=by rw [hgs];simp
 obtain ⟨R,hR⟩:∃R:Nat→List Row,R=fun k=>S3 names file (ms,g) k:=⟨_,rfl⟩
 obtain ⟨F,hF⟩:∃F:Merged→Row,F=fun m=>⟨true,m.Parents,names.getD m.Line.toNat []⟩:=⟨_,rfl⟩
 have hcs:∀k,(D9 (g k)).1.length≤4096∧∀m∈(D9 (g k)).1,(0≤m.Parents∧m.Parents < 4294967296)∧0≤m.Line∧m.Line < (names.length:Int):=fun k=>by
  have h3:=s7 (fun v=>0≤v∧v < (names.length:Int)) B (g k) (hg k).2
  rw [(hg k).1] at h3
  exact ⟨by omega,h3.2⟩
 have hR1:∀k,R (k+1)=R k++((D9 (g k)).1.map F++(if k < file.length then [⟨false,ms.getD k 0,file.getD k []⟩] else [])):=fun k=>by
  rw [hR];dsimp only;rw [a8,P0,hF]
 have hRl:∀k,(R k).length≤k*4097:=fun k=>by
  induction k with
  | zero=>rw [hR];simp [S3]
  | succ k ih=>rw [hR1];have:=(hcs k).1;simp only [J15,J29];split<;>simp<;>omega
 have hRn:S3 names file (ms,g) (file.length+1)=R (file.length+1):=by rw [hR]
 rw [hRn,←hgs]
 have hR0:R 0=[]:=by rw [hR];rfl
 refine AL.Met.introH Tryz.func111 (by decide) rfl rfl rfl (fun hH=>?_)
 refine k2 (A3 (A7 Z Z (A5 ?_)));refine k1 (k2 (k2 (A3 (A4 Z Z (A6 (C8 Z) Z (A6 (A8 Z) Z (E9 Z Z Z Z (E4 Z Z (A4 Z Z (A5 ?_))))))))));refine k1 (k3 ?_);refine H5 (J00 [708,733] (l:=[(0,.s (.one (.ref 730 0))),(12,C0 (List (List Int)) 1 intssC gs),(13,B6 gs.length),(14,B6 0)]) (ob':=A00 names lines ms gs n []) ⟨le1 rfl,le1 rfl,le1 rfl,le1 rfl,trivial⟩ hH (by repeat (first | exact F8 | refine F9 rfl ?_)) (fun _ _ h=>h)) ?_
 refine D2 (X:=Nat) (fun k=>([(0,.s (.one (.ref 730 0))),(12,C0 (List (List Int)) 1 intssC gs),(13,B6 gs.length),(14,B6 k)]++E1 [708,733] gf,A00 names lines ms gs n (R k))) (fun k=>k≤file.length+1) (fun k=>file.length+1 - k) 0 (Nat.zero_le _) (by rw [hR0];exact I99 fun _ _ h=>h) ?_
 intro k hk
 dsimp only at hk ⊢
 have hRk:=hRl k
 refine k2 (A3 (F4 Z Z Z (A5 ?_)));refine k1 (k2 ?_);refine B5 rfl (fun ht=>?_) (fun ht=>?_)
 rotate_left
 ·have hkl:k=file.length+1:=by have:=A1 ht;omega
  rw [hkl]
  refine k6 (k2 (A3 (A7 Z Z (A5 ?_))));refine k1 (k10 ?_)
  exact X6 (A90 rfl rfl) (by repeat (first | exact F8 | refine F9 rfl ?_)) (fun _ _ h=>h) ⟨rfl,rfl⟩
 have hlt:k < file.length+1:=by have:=A0 ht;omega
 have hgv:gs[k]?=some (g k):=by rw [hgs,J40,J48 hlt];rfl
 have hck:=hcs k
 have hgk:=hg k
 have hC:=F29 (g k) B (by omega) (by omega) (fun x hx=>(hgk.2 x hx).1) (by rw [hgk.1];exact hB)
 have hRs:=hR1 k
 obtain ⟨l,hld⟩:∃l,l=(D9 (g k)).1:=⟨_,rfl⟩
 rw [←hld] at hck hC hRs
 refine k5 (k1 (k2 (k3 (k2 (A3 (A4 Z Z (A6 (A9 Z (.pure _ _ _ _) Z (by omega) hgv) Z (A6 (B3 Z Z) Z (A7 Z Z (A7 Z Z (A5 ?_)))))))))));refine k1 (k2 (A3 (A4 Z Z (C6 (hC) Z Z Z ?_))));rintro _ rfl;refine A4 Z Z (J4 Z Z Z (J4 Z Z Z (A7 Z Z (A7 Z Z (A5 ?_)))));refine k1 (k2 (k2 (A3 (A4 Z Z (A6 (O6 Z Z) Z (A5 ?_))))));refine k1 ?_;refine B5 rfl (fun ht=>?_) (fun ht=>?_)
 ·cases ht
 refine k5 (k1 (k2 (k2 (A3 (A4 Z Z (E4 Z Z (A4 Z Z (A5 ?_))))))));refine k1 (k3 ?_);refine D2 (X:=Nat) (fun i=>([(0,.s (.one (.ref 730 0))),(3,B6 k),(12,C0 (List (List Int)) 1 intssC gs),(13,B6 gs.length),(14,B6 k),(27,C0 Merged 2 mergedC l),(28,B6 l.length),(29,B6 i)]++E1 [708,733] gf,A00 names lines ms gs n (R k++(l.take i).map F))) (fun i=>i≤l.length) (fun i=>l.length - i) 0 (Nat.zero_le _) ?_ ?_
 ·dsimp only
  rw [List.take_zero,J51,J35]
  exact I82 ⟨le1 rfl,le1 rfl,le1 rfl,le1 rfl,le1 rfl,le1 rfl,le1 rfl,le1 rfl,trivial⟩ (J9 hH) (by repeat (first | exact F8 | refine F9 rfl ?_)) (fun _ _ h=>h)
 intro i hi
 dsimp only at hi ⊢
 have hil:(R k++(l.take i).map F).length≤k*4097+4096:=by simp only [J15,J29,J36];omega
 refine k2 (A3 (F4 Z Z Z (A5 ?_)));refine k1 (k2 ?_);refine B5 rfl (fun ht=>?_) (fun ht=>?_)
 ·have hli:i < l.length:=by have:=A0 ht;omega
  have hlv:l[i]?=some l[i]:=by simp [hli]
  have hlb:=hck.2 l[i] (J26 hli)
  have hst:(l.take (i+1)).map F=(l.take i).map F++[F l[i]]:=by rw [J22 hli];simp only [J28,J24,J51]
  obtain ⟨m,hm⟩:∃m,m=l[i]:=⟨_,rfl⟩
  rw [←hm] at hlv hlb hst
  have hnv:names[m.Line.toNat]?=some (names.getD m.Line.toNat []):=by rw [J17,J14 (by omega)];rfl
  have hFi:F m=⟨true,m.Parents,names.getD m.Line.toNat []⟩:=by rw [hF]
  obtain ⟨Q,hQ⟩:∃Q,Q=R k++(l.take i).map F:=⟨_,rfl⟩
  rw [←hQ] at hil ⊢
  refine k5 (k1 (k2 (k3 (k2 (A3 (A6 (A9 Z (.pure _ _ _ _) Z (by omega) hlv) Z (A6 (F5 Z Z) Z (C2 (F12 708 Z (by decide)) Z (G1 (B7 TySz.out Z Z Z Z Z Z) (A5 ?_))))))))));refine k1 ?_;refine L6 ([(0,.s (.one (.ref 730 0))),(3,B6 k),(8,.s (.one (.ref 708 0))),(12,C0 (List (List Int)) 1 intssC gs),(13,B6 gs.length),(14,B6 k),(27,C0 Merged 2 mergedC l),(28,B6 l.length),(29,B6 i)]++E1 [708,733] gf) ((708,.box [.p (.v (.int .i64 m.Line)),.p (.v (.int .u32 m.Parents))])::A00 names lines ms gs n Q) (I82 ⟨le1 rfl,le1 rfl,le1 rfl,le1 rfl,le1 rfl,le1 rfl,le1 rfl,le1 rfl,le1 rfl,trivial⟩ (J9 hH) (by repeat (first | exact F8 | refine F9 rfl ?_ | refine x6 _ rfl ?_)) (ObIn.spec (ob':=(708,.box [.p (.v (.int .i64 m.Line)),.p (.v (.int .u32 m.Parents))])::A00 names lines ms gs n Q) ⟨rfl,rfl,rfl,rfl,trivial⟩)) ?_
  refine U8 [22,18] [[],[18],[22,18]] [(18,([733],[38])),(22,([],[]))] [(0,[]),(1,[]),(2,[]),(3,[]),(4,[]),(5,[]),(6,[]),(7,[]),(8,[]),(9,[]),(10,[]),(11,[]),(12,[]),(13,[]),(14,[]),(15,[]),(16,[]),(17,[]),(18,[]),(19,[18]),(20,[18]),(21,[18]),(22,[18])] [(0,[18])] (by kernel_rfl) (by kernel_rfl) (E5 Z Z (by kernel_rfl) Z Z (C3 Z Z) (E5 Z Z (by kernel_rfl) Z Z (C3 Z Z) (E5 Z Z (by kernel_rfl) Z Z (C8 Z) (E5 Z Z (by kernel_rfl) Z Z (A8 Z) (E5 Z Z (by kernel_rfl) Z Z (A8 Z) (E5 Z Z (by kernel_rfl) Z Z (B4 Z Z Z) (E5 Z Z (by kernel_rfl) Z Z (A8 Z) (E5 Z Z (by kernel_rfl) Z Z (B4 Z Z Z) (E5 Z Z (by kernel_rfl) Z Z (C3 Z Z) (E5 Z Z (by kernel_rfl) Z Z (C8 Z) (E5 Z Z (by kernel_rfl) Z Z (A8 Z) (E5 Z Z (by kernel_rfl) Z Z (B4 Z Z Z) (E5 Z Z (by kernel_rfl) Z Z (A8 Z) (E5 Z Z (by kernel_rfl) Z Z (B4 Z Z Z) (E5 Z Z (by kernel_rfl) Z Z (A9 Z (.pure _ _ _ _) Z (by omega) hnv) (E5 Z Z (by kernel_rfl) Z Z (B3 Z Z) (E5 Z Z (by kernel_rfl) Z Z (I1 Z) (E5 Z Z (by kernel_rfl) Z Z (C9 (c:=rowC) (ys:=[⟨true,m.Parents,names.getD m.Line.toNat []⟩]) (E0 Z Z Z Z G6) Z Z Z) (d9 Z Z (by kernel_rfl) Z Z (C60 (fun frc hU=>H4 (Z6 hU Z) Z (Z6 hU Z) (.pure _ _ _ _) (by (simp only [J16,J19];omega)) Z)) Z (E5 Z Z (by kernel_rfl) Z Z (C8 Z) (E5 Z Z (by kernel_rfl) Z Z (A8 Z) (E5 Z Z (by kernel_rfl) Z Z (A8 Z) (d9 Z Z (by kernel_rfl) Z Z (E62 (fun frc hU=>B7 TySz.out (Z6 hU Z) Z (Z6 hU Z) Z Z Z)) Z ?_)))))))))))))))))))))));refine w_nilG rfl (by kernel_rfl) rfl ?_ ?_
  ·refine L7 Z Z (by kernel_rfl) Z Z (C3 Z Z) ?_;exact D54
  refine k4 (k1 (A3 (C5 Z Z Z (A4 Z Z (A5 ?_)))));refine k1 ?_;refine ⟨i+1,by omega,by omega,?_⟩
  rw [hst,hFi,←J25,←hQ]
  exact I82 ⟨le1 rfl,le1 rfl,le1 rfl,le1 rfl,le1 rfl,le1 rfl,le1 rfl,le1 rfl,trivial⟩ (J9 hH) (by repeat (first | exact F8 | refine tail_drop rfl ?_ | refine F9 rfl ?_ | refine x6 _ rfl ?_)) (ObIn.spec (ob':=A00 names lines ms gs n (Q++[⟨true,m.Parents,names.getD m.Line.toNat []⟩])) ⟨rfl,rfl,rfl,trivial⟩)
 have hil2:i=l.length:=by have:=A1 ht;omega
 rw [hil2,J32] at hil ⊢
 rw [←J25] at hRs
 obtain ⟨Q,hQ⟩:∃Q,Q=R k++l.map F:=⟨_,rfl⟩
 rw [←hQ] at hil hRs ⊢
 refine k6 (k2 ?_)
 ·skip
  refine A3 (A4 Z Z (A4 Z Z (A6 (C8 Z) Z (A6 (A8 Z) Z (E9 Z Z Z Z (E4 Z Z (F4 Z Z Z (A5 ?_))))))));refine k1 ?_;refine B5 rfl (fun ht=>?_) (fun ht=>?_)
  ·have hkf:k < file.length:=by have:=A0 ht;omega
   rw [if_pos hkf] at hRs
   obtain ⟨q1,q2⟩:=hnm k hkf
   have hmv:ms[((k:Nat):Int).toNat]?=some (ms.getD k 0):=by rw [J21,J17,J14 (by omega)];rfl
   have hlv:lines[((k:Nat):Int).toNat]?=some (lines.getD k 0):=by rw [J21,J17,J14 (by omega)];rfl
   have q3:=(List.getElem?_eq_some_iff.1 q2).1
   skip
   refine L6 ([(0,.s (.one (.ref 730 0))),(3,B6 k),(12,C0 (List (List Int)) 1 intssC gs),(13,B6 gs.length),(14,B6 k)]++E1 [708,733] gf) (A00 names lines ms gs n Q) (I82 ⟨le1 rfl,le1 rfl,le1 rfl,le1 rfl,le1 rfl,trivial⟩ (J9 hH) (by repeat (first | exact F8 | refine F9 rfl ?_)) (fun _ _ h=>h)) ?_
   refine U8 [32,28] [[],[28],[32,28]] [(28,([733],[68])),(32,([],[]))] [(0,[]),(1,[]),(2,[]),(3,[]),(4,[]),(5,[]),(6,[]),(7,[]),(8,[]),(9,[]),(10,[]),(11,[]),(12,[]),(13,[]),(14,[]),(15,[]),(16,[]),(17,[]),(18,[]),(19,[]),(20,[]),(21,[]),(22,[]),(23,[]),(24,[]),(25,[]),(26,[]),(27,[]),(28,[]),(29,[28]),(30,[28]),(31,[28]),(32,[28])] [(0,[28])] (by kernel_rfl) (by kernel_rfl) (E5 Z Z (by kernel_rfl) Z Z (C3 Z Z) (E5 Z Z (by kernel_rfl) Z Z (C3 Z Z) (E5 Z Z (by kernel_rfl) Z Z (C8 Z) (E5 Z Z (by kernel_rfl) Z Z (A8 Z) (E5 Z Z (by kernel_rfl) Z Z (A8 Z) (E5 Z Z (by kernel_rfl) Z Z (B4 Z Z Z) (E5 Z Z (by kernel_rfl) Z Z (C3 Z Z) (E5 Z Z (by kernel_rfl) Z Z (C8 Z) (E5 Z Z (by kernel_rfl) Z Z (A8 Z) (E5 Z Z (by kernel_rfl) Z Z (B4 Z Z Z) (E5 Z Z (by kernel_rfl) Z Z (C3 Z Z) (E5 Z Z (by kernel_rfl) Z Z (A9 Z (.pure _ _ _ _) Z (by omega) hmv) (E5 Z Z (by kernel_rfl) Z Z (B3 Z Z) (E5 Z Z (by kernel_rfl) Z Z (C3 Z Z) (E5 Z Z (by kernel_rfl) Z Z (C8 Z) (E5 Z Z (by kernel_rfl) Z Z (A8 Z) (E5 Z Z (by kernel_rfl) Z Z (B4 Z Z Z) (E5 Z Z (by kernel_rfl) Z Z (C3 Z Z) (E5 Z Z (by kernel_rfl) Z Z (C8 Z) (E5 Z Z (by kernel_rfl) Z Z (A8 Z) (E5 Z Z (by kernel_rfl) Z Z (B4 Z Z Z) (E5 Z Z (by kernel_rfl) Z Z (C3 Z Z) (E5 Z Z (by kernel_rfl) Z Z (A9 Z (.pure _ _ _ _) Z (by omega) hlv) ?_)))))))))))))))))))))));refine E5 Z Z (by kernel_rfl) Z Z (B3 Z Z) (E5 Z Z (by kernel_rfl) Z Z (A9 Z (.pure _ _ _ _) Z (by omega) q2) (E5 Z Z (by kernel_rfl) Z Z (B3 Z Z) (E5 Z Z (by kernel_rfl) Z Z (I1 Z) (E5 Z Z (by kernel_rfl) Z Z (C9 (c:=rowC) (ys:=[⟨false,ms.getD k 0,file.getD k []⟩]) (E0 Z Z Z Z G6) Z Z Z) (d9 Z Z (by kernel_rfl) Z Z (C60 (fun frc hU=>H4 (Z6 hU Z) Z (Z6 hU Z) (.pure _ _ _ _) (by (simp only [J16,J19];omega)) Z)) Z (E5 Z Z (by kernel_rfl) Z Z (C8 Z) (E5 Z Z (by kernel_rfl) Z Z (A8 Z) (E5 Z Z (by kernel_rfl) Z Z (A8 Z) (d9 Z Z (by kernel_rfl) Z Z (E62 (fun frc hU=>B7 TySz.out (Z6 hU Z) Z (Z6 hU Z) Z Z Z)) Z ?_)))))))))
   refine w_nilG rfl (by kernel_rfl) rfl ?_ ?_
   ·refine L7 Z Z (by kernel_rfl) Z Z (C3 Z Z) ?_;exact D54
   refine k4 (k1 (A3 (C5 Z Z Z (A4 Z Z (A5 ?_)))));refine k1 ?_;refine ⟨k+1,by omega,by omega,?_⟩
   rw [hRs]
   exact I82 ⟨le1 rfl,le1 rfl,le1 rfl,le1 rfl,trivial⟩ (J9 hH) (by repeat (first | exact F8 | refine tail_drop rfl ?_ | refine F9 rfl ?_ | refine x6 _ rfl ?_)) (ObIn.spec (ob':=A00 names lines ms gs n (Q++[⟨false,ms.getD k 0,file.getD k []⟩])) ⟨rfl,rfl,rfl,trivial⟩)
  ·have hkf:¬k < file.length:=by have:=A1 ht;omega
   rw [if_neg hkf,J35] at hRs
   refine k5 (k4 (k1 (A3 (C5 Z Z Z (A4 Z Z (A5 ?_))))));refine k1 ?_;refine ⟨k+1,by omega,by omega,?_⟩
   rw [hRs]
   exact I82 ⟨le1 rfl,le1 rfl,le1 rfl,le1 rfl,trivial⟩ (J9 hH) (by repeat (first | exact F8 | refine tail_drop rfl ?_ | refine F9 rfl ?_ | refine x6 _ rfl ?_)) (fun _ _ h=>h)
theorem G80 (l:List Str) (s:Str):∀k:Int,0≤k→s∈l→l[(G9 l s k - k).toNat]?=some s:=by
 induction l with
 | nil=>intro k _ h;cases h
 | cons x r ih =>
  intro k h0 h
  by_cases hx:x=s
  ·unfold G9
   rw [if_pos hx,Int.sub_self,hx];rfl
  ·have hm:s∈r:=by rcases List.mem_cons.1 h with rfl | h;exact absurd rfl hx;exact h
   have h1:=ih (k+1) (by omega) hm
   have h2:=A70 r s (k+1) (by omega) hm
   unfold G9
   rw [if_neg hx,show (G9 r s (k+1) - k).toNat=(G9 r s (k+1) - (k+1)).toNat+1 by omega,List.getElem?_cons_succ]
   exact h1
theorem F96 (k:Nat):(S2 k++[TC.mut 734]).map (TC.ren 734 (k+1000))=S2 (k+1):=by
 unfold S2 J8
 rw [J28,J52,J28,J44]
 have h1:(List.range k).map (TC.ren 734 (k+1000) ∘ fun r=>if r < 0 then TC.p (.list (List Int) 1 intsC []) else TC.mut (r+1000))=(List.range k).map fun r=>if r < 0 then TC.p (.list (List Int) 1 intsC []) else TC.mut (r+1000):=by
  refine List.map_congr_left fun r hr=>?_
  show TC.ren 734 (k+1000) (if r < 0 then _ else TC.mut (r+1000))=_
  rw [if_neg (by omega)]
  simp [TC.ren,I2 (show r+1000≠734 by omega)]
 exact congr (congrArg _ h1) (by simp [TC.ren])
abbrev F30 (n:Nat):Nat→List (List Int):=fun _=>List.replicate n []
theorem I44 {k:Nat} (hk:k < 1000) {m:Nat} {g:Nat→List (List Int)}:I4 k (I3 intsC g (List.range m))=true:=A54 (k:=k) (by omega) (List.range m) (fun r _=>by omega) (c:=intsC) (g:=g)
abbrev H42 (names:List Str) (lines ms:List Int) (n k:Nat):Obs:=[(4,t8),(730,Y9 names lines n),(731,.arr Int 1 Z5 ms),(732,.growT 138 k 1 (S2 k))]
theorem F31 (k:Nat):(S2 k).all (TC.free (k+1000))=true:=by
 rw [List.all_eq_true]
 intro t ht
 obtain ⟨r,hr,rfl⟩:=List.mem_map.1 ht
 have:=List.mem_range.1 hr
 rw [if_neg (by omega)]
 simp [TC.free,I2 (show r+1000≠k+1000 by omega)]
theorem G81 (m:Nat) (g:Nat→List (List Int)):S2 m=J8 intsC m 0 g:=by
 unfold S2 J8
 refine List.map_congr_left fun r _=>?_
 rw [if_neg (by omega),if_neg (by omega)]
theorem G82 (q:Nat) (g:Nat→List (List Int)) (l:List Nat):Obs.forget q (I3 intsC g l)=I3 intsC g l:=by
 unfold Obs.forget I3
 rw [J44]
 exact List.map_congr_left fun r _=>rfl
theorem gap_fgt {K:List Nat} {q:Nat} {g:Nat→List (List Int)} {l:List Nat}:∀j x,U1 K j=false→C1 (I3 intsC g l) j=some x→C1 (Obs.forget q (I3 intsC g l)) j=some x:=fun j x _ h=>by rw [G82];exact h
theorem D64 (q:Nat) (names:List Str) (lines ms:List Int) (n k:Nat) (hq:q < 1000) (h1:4≠q) (h2:730≠q) (h3:731≠q) (h4:732≠q) (g:Nat→List (List Int)):I4 q (H42 names lines ms n k++I3 intsC g (List.range k))=true:=by
 show I4 q ((4,t8)::(730,Y9 names lines n)::(731,.arr Int 1 Z5 ms)::(732,.growT 138 k 1 (S2 k))::I3 intsC g (List.range k))=true
 simp only [I4,Ob.free,List.all_cons,List.all_nil,TC.free,I44 hq,B19 hq,I2 h1,I2 h2,I2 h3,I2 h4,I2 (Ne.symm h3),I2 (Ne.symm h4)]
 rfl
theorem H86 {P:Program} {nt:Nat} {fr:Fr} {names:List Str} {lines ms:List Int} {n k:Nat} (hk:k≤100000) (hfr:H6 (k+1000) fr=true) :
  Sees P nt fr ([(4,t8),(730,Y9 names lines n),(731,.arr Int 1 Z5 ms),(732,.growT 138 (k+1) 1 (S2 k++[TC.mut 734])),(734,.arr (List Int) 1 intsC (List.replicate n [])),(735,.tarr 1 1 [.mut 734])]++I3 intsC (F30 n) (List.range k))
   fr (H42 names lines ms n (k+1)++I3 intsC (F30 n) (List.range (k+1))):=by
 refine J09 (j:=734) (k:=k+1000) Z (by simp;omega) (by omega) hfr ?_
 intro i o h
 have b731:=I2 (show 731≠k+1000 by omega)
 have b732:=I2 (show 732≠k+1000 by omega)
 have b734:=I2 (show 734≠k+1000 by omega)
 by_cases e1:i=4
 ·subst e1
  have h:some t8=some o:=h
  cases h
  exact ⟨by omega,t8,by rw [if_neg (by omega)];rfl,rfl,rfl⟩
 by_cases e2:i=730
 ·subst e2
  have h:some (Y9 names lines n)=some o:=h
  cases h
  exact ⟨by omega,Y9 names lines n,by rw [if_neg (by omega)];rfl,by simp [Ob.free,TC.free,b731,b732],rfl⟩
 by_cases e3:i=731
 ·subst e3
  have h:some (.arr Int 1 Z5 ms)=some o:=h
  cases h
  exact ⟨by omega,_,by rw [if_neg (by omega)];rfl,rfl,rfl⟩
 by_cases e4:i=732
 ·subst e4
  have h:some (.growT 138 (k+1) 1 (S2 (k+1)))=some o:=h
  cases h
  refine ⟨by omega,.growT 138 (k+1) 1 (S2 k++[TC.mut 734]),by rw [if_neg (by omega)];rfl,?_,?_⟩
  ·simp only [Ob.free,J65,F31,List.all_cons,List.all_nil,TC.free,b734];rfl
  ·show _=Ob.growT _ _ _ _
   rw [F96]
 have h:C1 ([(4,t8),(730,Y9 names lines n),(731,.arr Int 1 Z5 ms),(732,.growT 138 (k+1) 1 (S2 (k+1)))]++I3 intsC (F30 n) (List.range (k+1))) i=some o:=h
 have hno:C1 ([(4,t8),(730,Y9 names lines n),(731,.arr Int 1 Z5 ms),(732,.growT 138 (k+1) 1 (S2 (k+1)))]:Obs) i=none:=by
  rw [B0 (Ne.symm e1),B0 (Ne.symm e2),B0 (Ne.symm e3),B0 (Ne.symm e4)];rfl
 rw [I6 hno] at h
 obtain ⟨r,h1,rfl,rfl⟩:=(Y2 _ _ _).1 h
 have h1:=List.mem_range.1 h1
 refine ⟨by omega,.arr (List Int) 1 intsC (List.replicate n []),?_,rfl,rfl⟩
 by_cases er:r=k
 ·subst er;rw [if_pos rfl];rfl
 ·rw [if_neg (by omega),I6 (d6 rfl (by omega))]
  exact r9 (List.mem_range.2 (by omega))
set_option maxHeartbeats 2000000
theorem F97 (result:Str) (parents:List Str) (B:Nat) (hpl:parents.length≤536870912) (hB:32*B≤4096) (h0:(B8 result).length≤B∧result.length≤4096) (h1:∀b∈parents,(B8 b).length≤B∧b.length≤4096) :
  FnOk Tryz.prog 53 [P8 result,A12 parents] (fun rs=>rs=[pTable (F3 result parents).1,J0 (F3 result parents).2]):=by
 refine FnOk.intro Tryz.func53 (by decide) Z Z Z Z ?_
 refine k2 (A3 (C2 (H3 4 Z) Z (A7 Z Z (A5 ?_))));refine k1 (k2 (A3 (A4 Z Z (E4 Z Z (A7 Z Z (A5 ?_))))));refine k1 (k2 (k2 (A3 (A4 Z Z (F4 Z Z Z (A4 Z Z (B2 Z Z Z Z (fun hg=>by rw [hg];exact C3 Z Z) ?_)))))));refine B2 Z Z Z Z (fun hg=>by rw [hg];exact R0 Z Z) ?_;refine J5 Z Z ?_;refine A5 ?_;refine k1 ?_;refine B5 rfl (fun ht=>?_) (fun ht=>?_)
 ·have hc:=A0 (or_pick.symm.trans ht)
  refine k2 (A3 (A6 (I1 Z) Z (G1 (B7 TySz.out Z Z Z Z Z Z) (A7 Z Z (A5 ?_)))));refine k1 (H5 (I85 Row 3 rowC 4 1 Z Z) ?_)
  refine k10 (k11 ?_)
  exact B9 (rs:=[pTable ⟨0,[]⟩,J0 2]) (m8 rfl rfl rfl rfl rfl rfl rfl) (by rw [F3,if_pos (by omega)])
 have hc:=A1 (or_pick.symm.trans ht)
 obtain ⟨n,hn⟩:∃n,n=parents.length:=⟨_,rfl⟩
 have hn1:1≤n∧n≤32:=by omega
 obtain ⟨f0,hf0⟩:∃f0,f0=B8 result:=⟨_,rfl⟩
 obtain ⟨fs,hfs⟩:∃fs,fs=B8 result::parents.map B8:=⟨_,rfl⟩
 have hfsm:fs=(result::parents).map B8:=by rw [hfs];rfl
 have hfl:fs.length=n+1:=by rw [hfs,hn];simp
 have hfB:∀f∈fs,f.length≤B:=by
  intro f hf
  rw [hfs] at hf
  rcases List.mem_cons.1 hf with rfl | hf
  ·exact h0.1
  ·obtain ⟨b,hb,rfl⟩:=List.mem_map.1 hf;exact (h1 b hb).1
 have hflat:fs.flatten.length≤(n+1)*B:=by
  rw [←hfl]
  clear hfsm hfs hfl
  induction fs with
  | nil=>simp
  | cons x r ih =>
   have:=ih fun f hf=>hfB f (List.mem_cons_of_mem _ hf)
   have:=hfB x (by simp)
   rw [J33,J15,J16,J37,Nat.one_mul];omega
 have hnB:n*B≤4096:=Nat.le_trans (J27 _ hn1.2) hB
 have hB1:(n+1)*B≤8192:=by rw [J37,Nat.one_mul];omega
 obtain ⟨names,hnames⟩:∃names,names=D8 fs:=⟨_,rfl⟩
 obtain ⟨ids,hids⟩:∃ids,ids=fs.map (J6 names):=⟨_,rfl⟩
 have hidl:ids.length=n+1:=by rw [hids,J29,hfl]
 obtain ⟨base,hbase⟩:∃base,base=J6 names f0:=⟨_,rfl⟩
 have hb0:base=ids.getD 0 []:=by rw [hids,hfs,hbase,hf0];rfl
 have hbl:base.length=f0.length:=by rw [hbase];simp [J6]
 have hf0B:f0.length≤B:=by rw [hf0];exact h0.1
 have hidB:∀x∈ids,x.length≤B∧∀v∈x,0≤v∧v < (names.length:Int):=by
  intro x hx
  have h2:∀v∈x,0≤v∧v < (names.length:Int):=by rw [hnames];exact H01 fs x (by rw [←hnames,←hids];exact hx)
  rw [hids] at hx
  obtain ⟨f,hf,rfl⟩:=List.mem_map.1 hx
  exact ⟨by rw [J6,J29];exact hfB f hf,h2⟩
 have hv0:ids[(0:Int).toNat]?=some base:=by rw [hb0,J17];show ids[0]?=_;rw [J14 (by omega)];rfl
 have hsame:=fun p hp=>B53 (n:=n) hb0 (fun x hx=>by have:=(hidB x hx).1;omega) (by omega) p hp
 have hok:∀p,LoomOk (fun v=>0≤v∧v < (names.length:Int)) B base.length n (M9 ids base.length n p):=fun p=>y5 hidB p
 have hmk:F3 result parents=(⟨n,S3 names f0 (M9 ids base.length n n) (f0.length+1)⟩,0):=by
  rw [F3,if_neg (by omega)]
  dsimp only
  rw [←hfs,←hnames,←hids,←hf0,←hn,←hbl]
  rw [if_neg]
  rintro ⟨k,hk,hk2⟩
  refine hk2 ?_
  have h3:=(hok n).gaps k
  unfold D9
  rw [if_neg (by omega)]
  exact A91 _ _ _ B (fun x hx=>(h3.2 x hx).1) (by rw [h3.1];simp only [J19];omega)
 rw [hmk]
 refine L6 [(0,X0 result),(1,C0 Str 1 M6 parents),(4,.s (.one (.ref 4 0))),(6,B6 n)] [(4,t8)] (by rw [hn];exact I81 ⟨le1 rfl,le1 rfl,le1 rfl,le1 rfl,trivial⟩ ⟨rfl,trivial⟩) ?_
 refine k5 (k1 (k2 (A3 (C2 (X5 760 _ strsC Z) Z (A5 ?_)))));refine k1 (k2 (k2 ?_))
 obtain ⟨bl,hbld⟩:∃bl,bl=result::parents:=⟨_,rfl⟩
 have hbll:bl.length=n+1:=by rw [hbld,hn];simp
 refine A3 (A4 Z Z (A6 (B16 (c:=M6) (ys:=[result]) (E0 Z Z Z Z G6) Z Z Z) Z (A4 Z Z (A6 (B68 Z Z (.pure _ _ _ _) (by (simp only [J16,J19];omega)) ((by omega))) Z (E4 Z Z (A4 Z Z (A5 ?_)))))));refine k1 (k3 ?_)
 rw [show [result]++parents=bl by rw [hbld];rfl]
 have hblB:∀b∈bl,(B8 b).length≤B∧b.length≤4096:=by
  intro b hb
  rw [hbld] at hb
  rcases List.mem_cons.1 hb with rfl | hb
  ·exact h0
  ·exact h1 b hb
 have hfsb:fs=bl.map B8:=by rw [hfsm,hbld]
 refine D2 (X:=Nat) (fun k=>([(4,.s (.one (.ref 4 0))),(6,B6 n),(7,.s (.one (.buf 760 (List Str) 1 strsC ((bl.take k).map B8)))),(29,C0 Str 1 M6 bl),(30,B6 bl.length),(31,B6 k)],[(4,t8),(760,.spare ((bl.take k).map B8).length 1 60)])) (fun k=>k≤bl.length) (fun k=>bl.length - k) 0 (Nat.zero_le _) (I81 ⟨le1 rfl,le1 rfl,le1 rfl,le1 rfl,le1 rfl,le1 rfl,trivial⟩ ⟨rfl,rfl,trivial⟩) ?_
 intro k hk
 dsimp only at hk ⊢
 have hml:((bl.take k).map B8).length=k:=by rw [J29,J36];omega
 refine k2 (A3 (F4 Z Z Z (A5 ?_)));refine k1 (k2 ?_);refine B5 rfl (fun ht=>?_) (fun ht=>?_)
 ·have hlt:k < bl.length:=by have:=A0 ht;omega
  have hv:bl[k]?=some bl[k]:=by simp [hlt]
  have hbB:=hblB _ (J26 hlt)
  have hst:(bl.take (k+1)).map B8=(bl.take k).map B8++[B8 bl[k]]:=by rw [J22 hlt];simp only [J28,J24,J51]
  obtain ⟨b,hb⟩:∃b,b=bl[k]:=⟨_,rfl⟩
  rw [←hb] at hv hbB hst
  have hsp:=H81 b (by omega)
  rw [E48 hbB.2] at hsp
  dsimp only at hsp
  refine k5 (k1 (k2 (k3 (k2 (A3 (A6 (A9 Z (.pure _ _ _ _) Z (by omega) hv) Z (A6 (B3 Z Z) Z (A7 Z Z (A5 ?_)))))))));refine k1 (k2 (A3 (A4 Z Z (C6 (hsp) Z Z Z ?_))));rintro _ rfl;refine A4 Z Z (J4 Z Z Z (J4 Z Z Z (A7 Z Z (A7 Z Z (A5 ?_)))));refine k1 (k2 (k2 (A3 (A4 Z Z (A6 (O6 Z Z) Z (A5 ?_))))));refine k1 ?_;refine B5 rfl (fun ht=>?_) (fun ht=>?_)
  ·cases ht
  refine k5 (k1 (A3 (A4 Z Z (A4 Z Z (A6 (C9 (c:=strsC) (ys:=[B8 b]) (E0 Z Z Z Z G6) Z Z Z) Z (C2 (H4 Z Z Z (.pure _ _ _ _) (by (rw [hml];simp only [J16,J19];omega)) Z) Z ?_))))));refine A7 Z Z (A5 ?_);refine k4 (k1 (A3 (C5 Z Z Z (A4 Z Z (A5 ?_)))));refine k1 ?_;refine ⟨k+1,by omega,by omega,?_⟩
  rw [hst]
  exact I81 ⟨le1 rfl,le1 rfl,le1 rfl,le1 rfl,le1 rfl,le1 rfl,trivial⟩ ⟨rfl,rfl,trivial⟩
 have hkl:k=bl.length:=by have:=A1 ht;omega
 rw [hkl,J32,←hfsb]
 have hI:=F28 fs (by omega) (by omega)
 have hN:=D63 fs (by omega) (by omega)
 rw [←hnames,←hids] at hI
 rw [←hnames] at hN
 refine k6 (k2 (A3 (A4 Z Z (C6 (hI) Z Z Z ?_))));rintro _ rfl;refine A7 Z Z (A5 ?_);refine H5 (fr':=[(4,.s (.one (.ref 4 0))),(6,B6 n),(7,C0 (List Str) 1 strsC fs),(12,C0 (List Int) 1 intsC ids)]) (ob':=[(4,t8)]) (I81 ⟨le1 rfl,le1 rfl,leL rfl,le1 rfl,trivial⟩ ⟨rfl,trivial⟩) ?_
 refine k2 (U8 [13,9] [[],[9],[13,9]] [(9,([731],[])),(13,([730],[]))] [(0,[]),(1,[]),(2,[]),(3,[]),(4,[]),(5,[]),(6,[]),(7,[]),(8,[]),(9,[]),(10,[]),(11,[]),(12,[9]),(13,[9]),(14,[13,9])] [(0,[9]),(1,[9]),(2,[9]),(3,[9]),(4,[9]),(10,[9]),(11,[9])] (by kernel_rfl) (by kernel_rfl) (E5 Z Z (by kernel_rfl) Z Z (C3 Z Z) (E5 Z Z (by kernel_rfl) Z Z (O4 (hN) Z Z) (E5 Z Z (by kernel_rfl) Z Z (C3 Z Z) (E5 Z Z (by kernel_rfl) Z Z (A9 Z (.pure _ _ _ _) Z (by omega) hv0) (E5 Z Z (by kernel_rfl) Z Z (B3 Z Z) (E5 Z Z (by kernel_rfl) Z Z (C3 Z Z) (E5 Z Z (by kernel_rfl) Z Z (A9 Z (.pure _ _ _ _) Z (by omega) hv0) (E5 Z Z (by kernel_rfl) Z Z (B3 Z Z) (E5 Z Z (by kernel_rfl) Z Z (V1 Z (.pure _ _ _ _)) (d9 Z Z (by kernel_rfl) Z Z (D29 (fun frc hU hk=>W2 731 Int Z5 0 (Z6 hU Z) (Z6 hU Z) (by omega) (by omega) (fun _=>by first | exact ⟨⟨rfl,rfl⟩,trivial⟩ | exact ⟨N3 _ _ _,trivial⟩) (by rw [hk];rfl))) Z ?_)))))))))));refine E5 Z Z (by kernel_rfl) Z Z (C3 Z Z) (E5 Z Z (by kernel_rfl) Z Z (I1 Z) (E5 Z Z (by kernel_rfl) Z Z (I1 Z) (d9 Z Z (by kernel_rfl) Z Z (D29 (fun frc hU hk=>T8 730 (Z6 hU Z) Z (by rw [hk];rfl))) Z ?_)));refine E5 Z Z (by kernel_rfl) Z Z (K8 Z Z) ?_;refine E61 (by kernel_rfl) rfl ?_ ?_
 ·refine L7 Z Z (by kernel_rfl) Z Z (C3 Z Z) (L7 Z Z (by kernel_rfl) Z Z (O4 (hN) Z Z) (L7 Z Z (by kernel_rfl) Z Z (C3 Z Z) (L7 Z Z (by kernel_rfl) Z Z (A9 Z (.pure _ _ _ _) Z (by omega) hv0) (L7 Z Z (by kernel_rfl) Z Z (B3 Z Z) (L7 Z Z (by kernel_rfl) Z Z (C3 Z Z) (L7 Z Z (by kernel_rfl) Z Z (I1 Z) ?_))))));exact D54
 rw [J21]
 refine k1 (k2 (k2 (H5 (J06 732 (List (List Int)) 1 intssC 138 (kb:=730) (o:=3) Z Z Z) ?_)))
 refine H5 (J12 732 Z) ?_
 refine A3 (A4 Z Z (A6 (A9 Z (.pure _ _ _ _) Z (by omega) hv0) Z (A6 (B3 Z Z) Z (E4 Z Z (C5 Z Z Z (A4 Z Z (A5 ?_)))))));refine k1 (k3 (D2 (X:=Nat) (fun k=>([(4,.s (.one (.ref 4 0))),(6,B6 n),(12,C0 (List Int) 1 intsC ids),(13,.s (.one (.ref 730 0))),(69,B6 ((base.length:Int)+1)),(70,B6 k)],H42 names base (List.replicate base.length 0) n k++I3 intsC (F30 n) (List.range k))) (fun k=>k≤base.length+1) (fun k=>base.length+1 - k) 0 (Nat.zero_le _) (I81 ⟨le1 rfl,le1 rfl,le1 rfl,le1 rfl,le1 rfl,le1 rfl,trivial⟩ ⟨rfl,rfl,rfl,rfl,trivial⟩) ?_))
 intro k hk
 dsimp only at hk ⊢
 refine k2 (A3 (F4 Z Z Z (A5 ?_)));refine k1 (k2 ?_);refine B5 rfl (fun ht=>?_) (fun ht=>?_)
 ·have hlt:k < base.length+1:=by have:=A0 ht;omega
  have hfree:=D64 734 names base (List.replicate base.length 0) n k (by omega) (by omega) (by omega) (by omega) (by omega) (F30 n)
  have hfree5:I4 735 ((734,.arr (List Int) 1 intsC (List.replicate n []))::(H42 names base (List.replicate base.length 0) n k++I3 intsC (F30 n) (List.range k)))=true:=by
   have:=D64 735 names base (List.replicate base.length 0) n k (by omega) (by omega) (by omega) (by omega) (by omega) (F30 n)
   rw [I4,this];rfl
  have h732:(S2 k++[TC.mut 734]).map (TC.forget 732)=S2 k++[TC.mut 734]:=c9 (by rw [J65,B19 (by omega)];rfl)
  refine k5 (k1 (k2 (k3 (U8 [11,8,7,6] [[],[6],[7,6],[8,7,6],[11,8,7,6]] [(6,([734],[])),(7,([735],[])),(8,([732],[76])),(11,([],[]))] [(0,[]),(1,[]),(2,[]),(3,[]),(4,[]),(5,[]),(6,[]),(7,[6]),(8,[7,6]),(9,[8,7,6]),(10,[8,7,6]),(11,[8,7,6])] [(0,[6]),(0,[7,6]),(0,[8,7,6]),(1,[6]),(1,[7,6]),(2,[6]),(2,[7,6]),(3,[6]),(3,[7,6]),(4,[6]),(4,[7,6])] (by kernel_rfl) (by kernel_rfl) (E5 Z Z (by kernel_rfl) Z Z (C3 Z Z) (E5 Z Z (by kernel_rfl) Z Z (C3 Z Z) (E5 Z Z (by kernel_rfl) Z Z (C8 Z) (E5 Z Z (by kernel_rfl) Z Z (A8 Z) (E5 Z Z (by kernel_rfl) Z Z (B4 Z Z Z) (E5 Z Z (by kernel_rfl) Z Z (C3 Z Z) (d9 Z Z (by kernel_rfl) Z Z (D29 (fun frc hU hk=>W2 734 (List Int) intsC [] (Z6 hU Z) (Z6 hU Z) (by omega) (by omega) (fun _=>by first | exact ⟨⟨rfl,rfl⟩,trivial⟩ | exact ⟨N3 _ _ _,trivial⟩) (by rw [hk];exact hfree))) Z ?_)))))))))));refine d9 Z Z (by kernel_rfl) Z Z (D29 (fun frc hU hk=>I38 735 (Z6 hU Z) Z Z Z Z (by rw [hk];exact hfree5))) Z ?_;refine d9 Z Z (by kernel_rfl) Z Z (C60 (fun frc hU=>F24 (Z6 hU Z) Z (Z6 hU Z) Z (by omega) Z)) Z (E5 Z Z (by kernel_rfl) Z Z (C8 Z) (E5 Z Z (by kernel_rfl) Z Z (A8 Z) (d9 Z Z (by kernel_rfl) Z Z (E62 (fun frc hU=>B7 TySz.out (Z6 hU Z) Z (Z6 hU Z) Z Z Z)) Z ?_)));refine E61 (by kernel_rfl) rfl ?_ ?_
  ·refine L7 Z Z (by kernel_rfl) Z Z (C3 Z Z) (L7 Z Z (by kernel_rfl) Z Z (C3 Z Z) (L7 Z Z (by kernel_rfl) Z Z (C3 Z Z) (L7 Z Z (by kernel_rfl) Z Z (C3 Z Z) (L7 Z Z (by kernel_rfl) Z Z (C3 Z Z) (L7 Z Z (by kernel_rfl) Z Z (C8 Z) (L7 Z Z (by kernel_rfl) Z Z (C8 Z) (L7 Z Z (by kernel_rfl) Z Z (A8 Z) (L7 Z Z (by kernel_rfl) Z Z (A8 Z) (L7 Z Z (by kernel_rfl) Z Z (B4 Z Z Z) (L7 Z Z (by kernel_rfl) Z Z (B4 Z Z Z) ?_))))))))));exact D54
  refine L6 [(4,.s (.one (.ref 4 0))),(6,B6 n),(12,C0 (List Int) 1 intsC ids),(13,.s (.one (.ref 730 0))),(69,B6 ((base.length:Int)+1)),(70,B6 k)] ([(4,t8),(730,Y9 names base n),(731,.arr Int 1 Z5 (List.replicate base.length 0)),(732,.growT 138 (k+1) 1 (S2 k++[TC.mut 734])),(734,.arr (List Int) 1 intsC (List.replicate n [])),(735,.tarr 1 1 [.mut 734])]++I3 intsC (F30 n) (List.range k)) (I83 ⟨le1 rfl,le1 rfl,le1 rfl,le1 rfl,le1 rfl,le1 rfl,trivial⟩ (B45 (L:=[(4,_),(730,_),(731,_),(732,_),(734,_),(735,_)]) ⟨rfl,rfl,rfl,congrArg (fun ts=>some (Ob.growT 138 (k+1) 1 ts)) h732,rfl,rfl,trivial⟩ (by repeat (first | exact gap_fgt | refine B14 rfl ?_)))) ?_
  refine H5 (H86 (by omega) (by simp only [H6,SV.free,S1.free,TC.free,I2 (show 4≠k+1000 by omega),I2 (show 730≠k+1000 by omega)];rfl)) ?_
  skip
  refine A3 (C5 Z Z Z (A4 Z Z (A5 ?_)));refine k1 ?_;refine ⟨k+1,by omega,by omega,?_⟩
  exact I83 ⟨le1 rfl,le1 rfl,le1 rfl,le1 rfl,le1 rfl,le1 rfl,trivial⟩ (fun _ _ h=>h)
 have hkb:k=base.length+1:=by have:=A1 ht;omega
 rw [hkb]
 refine L6 [(4,.s (.one (.ref 4 0))),(6,B6 n),(12,C0 (List Int) 1 intsC ids),(13,.s (.one (.ref 730 0)))] (B18 names base (List.replicate base.length 0) (F30 n) n (base.length+1)) (I83 ⟨le1 rfl,le1 rfl,le1 rfl,le1 rfl,trivial⟩ (fun _ _ h=>h)) ?_
 refine k6 (k2 (k2 (A3 (A4 Z Z (A4 Z Z (A5 ?_))))));refine k1 (k3 ?_)
 obtain ⟨s,hs⟩:∃s:Nat→Loom,s=fun p=>q8 ids base.length n p:=⟨_,rfl⟩
 have hsp:∀p,p≤32→s p=M9 ids base.length n p∧(s p).1.length=base.length∧∀k,((s p).2 k).length=n:=fun p hp=>by
  obtain ⟨q1,_,q3⟩:=hsame p hp
  rw [hs]
  dsimp only
  refine ⟨q1,q3,fun k=>?_⟩
  rw [q1]
  exact ((hok p).gaps k).1
 refine D2 (X:=Nat) (fun p=>([(4,.s (.one (.ref 4 0))),(6,B6 n),(12,C0 (List Int) 1 intsC ids),(13,.s (.one (.ref 730 0))),(84,B6 n),(85,B6 p)],B18 names base (s p).1 (s p).2 n (base.length+1))) (fun p=>p≤n) (fun p=>n - p) 0 (Nat.zero_le _) (by rw [hs];exact I83 ⟨le1 rfl,le1 rfl,le1 rfl,le1 rfl,le1 rfl,le1 rfl,trivial⟩ (fun _ _ h=>h)) ?_
 intro p hp
 dsimp only at hp ⊢
 obtain ⟨p1,p2,p3⟩:=hsp p (by omega)
 refine k2 (A3 (F4 Z Z Z (A5 ?_)));refine k1 (k2 ?_);refine B5 rfl (fun ht=>?_) (fun ht=>?_)
 ·have hlt:p < n:=by have:=A0 ht;omega
  have hv1:ids[((p:Int)+1).toNat]?=some (ids.getD (p+1) []):=by rw [show ((p:Int)+1).toNat=p+1 by omega,J17,J14 (by omega)];rfl
  have hfB:=(hidB _ (J30 hv1)).1
  have hst:s (p+1)=v6 ids (s p) p:=by rw [hs];exact B34 ids base.length n p
  obtain ⟨file,hfile⟩:∃f,f=ids.getD (p+1) []:=⟨_,rfl⟩
  have hst2:s (p+1)=((J7 file base).foldl (O0 p) (s p).1,(J7 file base).foldl (J3 p file) (s p).2):=by rw [hst,hfile,hb0];rfl
  rw [←hfile] at hv1 hfB
  refine k5 (k1 (k2 (k3 (k2 (A3 (A4 Z Z (A7 Z Z (A5 ?_))))))));refine k1 (k2 (A3 (A4 Z Z (A4 Z Z (A4 Z Z (A4 Z Z (C5 Z Z Z (A6 (A9 Z (.pure _ _ _ _) Z (by omega) hv1) Z (A6 (B3 Z Z) Z (A15 (I43 names base file (s p).1 (s p).2 n p (by omega) (by omega) p2 (by omega) hlt p3) Z Z Z ?_))))))))));rintro _ _ ⟨rfl,rfl⟩;refine A7 Z Z (A5 ?_);refine k1 (k2 (A3 (A4 Z Z (A6 (O6 Z Z) Z (A5 ?_)))));refine k1 ?_;refine B5 rfl (fun ht=>?_) (fun ht=>?_)
  ·cases ht
  refine k5 (k4 (k1 (A3 (C5 Z Z Z (A4 Z Z (A5 ?_))))));refine k1 ?_;refine ⟨p+1,by omega,by omega,?_⟩
  rw [hst2]
  exact I83 ⟨le1 rfl,le1 rfl,le1 rfl,le1 rfl,le1 rfl,le1 rfl,trivial⟩ (fun _ _ h=>h)
 have hpn:p=n:=by have:=A1 ht;omega
 subst hpn
 obtain ⟨ms,hms⟩:∃ms,ms=(s p).1:=⟨_,rfl⟩
 obtain ⟨g,hg⟩:∃g,g=(s p).2:=⟨_,rfl⟩
 have hpair:M9 ids base.length p p=(ms,g):=by rw [←p1,hms,hg]
 rw [←hms,←hg]
 rw [←hms] at p2
 have hgk:=fun k=>(hok p).gaps k
 rw [hpair] at hgk ⊢
 dsimp only at hgk
 refine L6 [(4,.s (.one (.ref 4 0))),(6,B6 p),(13,.s (.one (.ref 730 0)))] ([(4,t8),(730,Y9 names base p),(731,.arr Int 1 Z5 ms)]++((732,.growT 138 (base.length+1) 1 (J8 intsC (base.length+1) 0 g))::I3 intsC g (List.range (base.length+1)))) (by rw [←G81];exact I83 ⟨le1 rfl,le1 rfl,le1 rfl,trivial⟩ (fun _ _ h=>h)) ?_
 refine H5 (J02 (by omega) rfl rfl (fun r _=>?_) (fun r _=>?_)) ?_
 ·simp only [H6,SV.free,S1.free,TC.free,I2 (show 4≠r+1000 by omega),I2 (show 730≠r+1000 by omega)];rfl
 ·simp only [A13,Ob.free,List.all_cons,List.all_nil,TC.free,I2 (show 731≠r+1000 by omega),I2 (show 732≠r+1000 by omega)];rfl
 obtain ⟨gs,hgs⟩:∃gs,gs=(List.range (base.length+1)).map g:=⟨_,rfl⟩
 rw [←hgs]
 refine H5 (Sees.freeze (k:=731) Z) ?_
 refine H5 (Sees.freezeG (k:=732) Z Z) ?_
 refine L6 [(4,.s (.one (.ref 4 0))),(6,B6 p),(13,.s (.one (.ref 730 0)))] [(4,t8),(730,.box [.p (.list Str 1 M6 names),.p (.list Int 1 G3 base),.p (.list Int 1 Z5 ms),.p (.list (List (List Int)) 1 intssC gs),.p (.v (.int .i64 p)),.p (.v (.slice none 0 0))])] (I81 ⟨le1 rfl,le1 rfl,le1 rfl,trivial⟩ ⟨rfl,rfl,trivial⟩) ?_
 refine H5 (I89 733 Row 3 rowC 69 (kb:=730) (o:=5) Z Z Z) ?_
 refine L6 [(4,.s (.one (.ref 4 0))),(6,B6 p),(13,.s (.one (.ref 730 0)))] (A00 names base ms gs p []) (I81 ⟨le1 rfl,le1 rfl,le1 rfl,trivial⟩ ⟨rfl,rfl,rfl,trivial⟩) ?_
 have hnm:∀k,k < f0.length→0≤base.getD k 0∧names[(base.getD k 0).toNat]?=some (f0.getD k []):=by
  intro k hk
  have hm:f0[k]∈names:=by rw [hnames];exact B24 fs _ f0 (by rw [hfs,hf0];simp) (J26 hk)
  have e1:base.getD k 0=G9 names f0[k] 0:=by rw [hbase,J17];unfold J6;rw [J40,J14 hk];rfl
  have e2:f0.getD k []=f0[k]:=by rw [J17,J14 hk];rfl
  have e3:=A70 names f0[k] 0 (Int.le_refl _) hm
  have e4:=G80 names f0[k] 0 (Int.le_refl _) hm
  rw [e1,e2]
  rw [Int.sub_zero] at e4
  exact ⟨e3.1,e4⟩
 have hW:=fun gf=>G79 (gf:=gf) names f0 base ms g p B (by omega) hbl (by omega) (by omega) hnB hgk hnm
 rw [hbl] at hgs
 rw [←hgs] at hW
 refine k6 (k2 (k2 (A3 (A4 Z Z (A15 (hW _) Z Z Z ?_)))));rintro _ _ ⟨rfl,rfl⟩;refine A7 Z Z (A5 ?_);refine k1 (k2 (A3 (A4 Z Z (A6 (O6 Z Z) Z (A5 ?_)))));refine k1 ?_;refine B5 rfl (fun ht=>?_) (fun ht=>?_)
 ·cases ht
 refine k5 (k1 (k2 (A3 (A4 Z Z (A6 (C8 Z) Z (A6 (A8 Z) Z (A6 (D6 Z Z Z) Z (G1 (B7 TySz.out Z Z Z Z Z Z) (A7 Z Z (A5 ?_))))))))));refine k1 (k10 ?_)
 exact B9 (rs:=[pTable ⟨p,S3 names f0 (ms,g) (f0.length+1)⟩,J0 0]) (m8 rfl rfl rfl rfl rfl rfl rfl) rfl
abbrev bS (b:Bool):S1:=.one (.p (.v (.bool b)))
abbrev iS (i:Int):S1:=.one (.p (.v (.int .i64 i)))
theorem H87 (r:Row):FnOk Tryz.prog 248 [pRow r] (fun rs=>rs=[N1 (S4 r)]):=by
 refine FnOk.intro Tryz.func248 (by decide) Z Z Z Z ?_
 refine k2 (A3 (C2 (T8 1 Z Z Z) Z (A7 Z Z (A5 ?_))));refine k1 (k2 (A3 (A6 (A8 Z) Z (E9 Z Z Z Z (A6 (M3 Z) Z (A4 Z Z (B2 Z Z Z Z (fun hg=>by rw [hg];exact A8 Z) ?_)))))));refine B2 Z Z Z Z (fun hg=>by rw [hg];exact B4 Z Z Z) ?_;refine B2 Z Z Z Z (fun hg=>by rw [hg];exact Q0 Z Z) ?_;refine J5 Z Z ?_;refine A7 Z Z (A5 ?_);refine k1 (k10 (B9 (I5 Z Z Z) ?_))
 unfold S4
 cases r.Lost<;>simp
set_option maxHeartbeats 1000000
theorem obs_ff {q:Nat} {x y:Ob} {ob:Obs} (hf1:Obs.forget q ob=ob):∀k o,C1 ((q,x)::ob) k=some o→C1 ((q,x)::Obs.forget q ((q,y)::ob)) k=some o:=by
 intro k o h
 by_cases e:q=k
 ·subst e;rw [C7] at h ⊢;exact h
 ·rw [B0 e] at h ⊢
  show C1 ((q,_)::Obs.forget q ob) k=some o
  rw [B0 e,hf1];exact h
def Answers (P:Program) (f:FuncId) (c:Nat) (o0:Ob) (l:List Bool):Prop :=
 ∀(gf:Fr) (ob:Obs),C1 ob c=some o0→∀i:Nat,i < l.length→AL.Met P f [iS i,.one (.ref c 0)] gf ob [] (fun rs ob'=>rs=[bS (l.getD i false)]∧ob'=ob)
theorem D65 {gf:Fr} {ob:Obs} (l:List Bool) (f:FuncId) (c:Nat) (o0:Ob) (hl:l.length≤536870912) (hf0:I4 750 ob=true) (hc750:750≠c) (hc:C1 ob c=some o0) (hf:Answers Tryz.prog f c o0 l) :
  AL.Met Tryz.prog 162 [iS l.length,.one (.clo f [] [(c,0)])] gf ob [750] (fun rs ob'=>rs=[.one (.mut 750)]∧ob'=(750,.grow 88 Span 2 spanC (P7 l))::ob):=by
 obtain ⟨hf1,hf2,_⟩:=S9 hf0
 obtain ⟨W,hW⟩:∃W,W=P7 l:=⟨_,rfl⟩
 rw [←hW]
 refine AL.Met.introH Tryz.func162 (by decide) rfl rfl rfl (fun hH=>?_)
 refine k2 (A3 (A7 Z Z (A5 ?_)));refine k1 (k2 (A3 (C2 (I37 750 _ spanC hf2 Z) Z (A5 ?_))))
 rw [hf1]
 refine k1 (k2 (k2 (A3 (A4 Z Z (A4 Z Z (A5 ?_))))));refine k1 (k3 ?_);refine D2 (X:=Nat × List Span) (fun x=>([(1,.s (.one (.clo f [] [(c,0)]))),(5,.s (.one (.mut 750))),(7,B6 l.length),(8,B6 x.1)]++E1 [750] gf,(750,.grow 88 Span 2 spanC x.2)::ob)) (fun x=>x.1≤l.length∧B99 x.1 x.2∧(D11 l x.1=true→x.2≠[])∧W=A38 (l.drop x.1) x.1 (D11 l x.1) x.2) (fun x=>l.length - x.1) (0,[]) ⟨Nat.zero_le _,⟨Nat.le_refl _,(fun s hs=>by cases hs)⟩,(fun h=>by cases h),hW⟩ ?_ ?_
 ·exact I82 ⟨leE rfl (by simp [SV.forget,S1.forget,TC.forget,A50,I2 (Ne.symm hc750)]),le1 rfl,le1 rfl,le1 rfl,trivial⟩ (J9 hH) (by repeat (first | exact F8 | refine F9 rfl ?_ | refine M1 _ ?_)) (fun _ _ h=>h)
 rintro ⟨i,out⟩ ⟨hi,hin,hne,hp⟩
 dsimp only at hi hin hne hp ⊢
 have hcn:C1 ((750,.grow 88 Span 2 spanC out)::ob) c=some o0:=(B0 hc750 _ _).trans hc
 have hfi:=fun gf (i:Nat) (h:i < l.length)=>hf gf _ hcn i h
 refine k2 (A3 (F4 Z Z Z (A5 ?_)));refine k1 (k2 ?_);refine B5 rfl (fun ht=>?_) (fun ht=>?_)
 rotate_left
 ·have hil:i=l.length:=by have:=A1 ht;omega
  rw [hil,J23 (Nat.le_refl _)] at hp
  have hp:W=out:=hp
  refine k6 (k2 (A3 (A4 Z Z (A7 Z Z (A5 ?_)))));refine k1 (k10 ?_)
  rw [hp]
  exact X6 (A90 rfl rfl) (by repeat (first | exact F8 | refine F9 rfl ?_)) (fun _ _ h=>h) ⟨rfl,rfl⟩
 have hlt:i < l.length:=by have:=A0 ht;omega
 rw [I17 hlt] at hp
 have hpn:D11 l (i+1)=l.getD i false:=by unfold D11;rw [if_neg (by omega)];rfl
 have hst:=H61 (l.getD i false) (D11 l i) hin
 rw [←hpn] at hp hst
 have hcall:=fun gf=>hfi gf i hlt
 have hlen:=hin.1
 have hi0:D11 l i=if i=0 then false else l.getD (i - 1) false:=rfl
 rw [←hpn] at hcall
 obtain ⟨b,hb⟩:∃b,b=D11 l (i+1):=⟨_,rfl⟩
 rw [←hb] at hp hst hcall
 refine k5 (k1 (k2 (k3 (k2 (A3 (A4 Z Z (A7 Z Z (A5 ?_))))))));refine k1 (k3 (k2 ?_))
 cases b with
 | false =>
  rw [if_neg (by decide)] at hp hst
  refine A3 (A4 Z Z (A4 Z Z (A32 (hcall _) Z Z Z Z ?_)));rintro _ _ ⟨rfl,rfl⟩;refine A6 (M3 Z) Z (A7 Z Z (A5 ?_));refine k1 ?_;refine B5 rfl (fun ht=>?_) (fun ht=>?_)
  ·refine k5 (k4 (k4 (k1 (A3 (C5 Z Z Z (A4 Z Z (A5 ?_)))))));refine k1 ?_
   exact ⟨(i+1,out),⟨by dsimp only;omega,hst,(fun h=>by rw [←hb] at h;cases h),by rw [←hb];exact hp⟩,by dsimp only;omega,I82 ⟨le1 rfl,le1 rfl,le1 rfl,le1 rfl,trivial⟩ (J9 hH) (by repeat (first | exact F8 | refine F9 rfl ?_)) (fun _ _ h=>h)⟩
  ·cases ht
 | true =>
  rw [if_pos rfl] at hp hst
  refine A3 (A4 Z Z (A4 Z Z (A32 (hcall _) Z Z Z Z ?_)));rintro _ _ ⟨rfl,rfl⟩;refine A6 (M3 Z) Z (A7 Z Z (A5 ?_));refine k1 ?_;refine B5 rfl (fun ht=>?_) (fun ht=>?_)
  ·cases ht
  refine k2 ?_
  by_cases hi1:i=0
  ·subst hi1
   rw [hi0,if_pos rfl,if_neg (by decide),b8] at hp
   rw [hi0,if_pos rfl,if_neg (by decide),b8] at hst
   have h0:decide (((0:Nat):Int) > 0)=false:=by decide
   refine A3 (A4 Z Z (A6 (R0 Z Z) Z (A4 Z Z (O8 Z Z Z (by decide) Z (O8 Z Z Z (by decide) Z (O8 Z Z Z (by decide) Z (O8 Z Z Z (by decide) Z (A6 (C13 Z (h0) Z) Z (A7 Z Z (A5 ?_))))))))));refine k1 ?_;refine B5 rfl (fun ht=>?_) (fun ht=>?_)
   ·cases ht
   skip
   refine A3 (A4 Z Z (A4 Z Z (A4 Z Z (C5 Z Z Z (A6 (I1 Z) Z (A6 (C9 (c:=spanC) (ys:=[⟨((0:Nat):Int),((0:Nat):Int)+1⟩]) (E0 Z Z Z Z G6) Z Z Z) Z (C2 (D42 Z Z Z (.pure _ _ _ _) (by (simp only [J16,J19];omega)) Z) Z (A7 Z Z (A5 ?_)))))))));refine k4 (k4 (k1 (A3 (C5 Z Z Z (A4 Z Z (A5 ?_))))));refine k1 ?_;refine ⟨(0+1,out++[⟨((0:Nat):Int),((0:Nat):Int)+1⟩]),⟨by dsimp only;omega,hst,(fun _=>by simp),by rw [←hb];exact hp⟩,by dsimp only;omega,?_⟩
   exact I82 ⟨leE rfl (by simp [SV.forget,S1.forget,TC.forget,A50,I2 (Ne.symm hc750)]),le1 rfl,le1 rfl,le1 rfl,trivial⟩ (J9 hH) (by repeat (first | exact F8 | refine F9 rfl ?_ | refine x6 _ rfl ?_)) (obs_ff hf1)
  rw [if_neg hi1] at hi0
  have h0:decide ((i:Int) > 0)=true:=decide_eq_true (by omega)
  have hcall2:=fun gf=>hfi gf (i - 1) (by omega)
  rw [←hi0,show ((i - 1:Nat):Int)=(i:Int) - 1 by omega] at hcall2
  cases hq:D11 l i with
  | false =>
   rw [hq] at hcall2
   rw [hq,if_neg (by decide),b8] at hp hst
   refine A3 (A4 Z Z (A6 (R0 Z Z) Z (A4 Z Z (O5 Z Z Z h0 (A4 Z Z (O5 Z Z Z h0 (A4 Z Z (O5 Z Z Z h0 (A6 (U3 Z Z (by omega)) Z (O5 Z Z Z h0 (A32 (hcall2 _) Z Z Z Z ?_)))))))))));rintro _ _ ⟨rfl,rfl⟩;refine J5 Z Z ?_;refine A7 Z Z (A5 ?_);refine k1 ?_;refine B5 rfl (fun ht=>?_) (fun ht=>?_)
   ·rw [if_pos h0] at ht;cases ht
   skip
   refine A3 (A4 Z Z (A4 Z Z (A4 Z Z (C5 Z Z Z (A6 (I1 Z) Z (A6 (C9 (c:=spanC) (ys:=[⟨(i:Int),(i:Int)+1⟩]) (E0 Z Z Z Z G6) Z Z Z) Z (C2 (D42 Z Z Z (.pure _ _ _ _) (by (simp only [J16,J19];omega)) Z) Z (A7 Z Z (A5 ?_)))))))));refine k4 (k4 (k1 (A3 (C5 Z Z Z (A4 Z Z (A5 ?_))))));refine k1 ?_;refine ⟨(i+1,out++[⟨(i:Int),(i:Int)+1⟩]),⟨by dsimp only;omega,hst,(fun _=>by simp),by rw [←hb];exact hp⟩,by dsimp only;omega,?_⟩
   exact I82 ⟨leE rfl (by simp [SV.forget,S1.forget,TC.forget,A50,I2 (Ne.symm hc750)]),le1 rfl,le1 rfl,le1 rfl,trivial⟩ (J9 hH) (by repeat (first | exact F8 | refine F9 rfl ?_ | refine x6 _ rfl ?_)) (obs_ff hf1)
  | true =>
   rw [hq] at hcall2
   rw [hq,if_pos rfl] at hp hst
   have hne:=hne hq
   obtain ⟨s,hs⟩:∃s,out.getLast?=some s:=⟨_,List.getLast?_eq_some_getLast hne⟩
   have hq1:=List.length_pos_iff.2 hne
   have hv2:out[((out.length:Int) - 1).toNat]?=some s:=by
    rw [show ((out.length:Int) - 1).toNat=out.length - 1 by omega,←List.getLast?_eq_getElem?];exact hs
   have hset:out.set (((out.length:Int) - 1).toNat) ⟨s.From,(i:Int)+1⟩=Y7 out ((i:Int)+1):=by
    rw [show ((out.length:Int) - 1).toNat=out.length - 1 by omega]
    unfold Y7
    rw [hs]
    dsimp only
    have hd:=List.dropLast_concat_getLast hne
    conv=>lhs;rw [←hd]
    rw [List.set_append_right _ _ (by rw [List.length_dropLast,J15,List.length_dropLast];simp)]
    simp
   refine A3 (A4 Z Z (A6 (R0 Z Z) Z (A4 Z Z (O5 Z Z Z h0 (A4 Z Z (O5 Z Z Z h0 (A4 Z Z (O5 Z Z Z h0 (A6 (U3 Z Z (by omega)) Z (O5 Z Z Z h0 (A32 (hcall2 _) Z Z Z Z ?_)))))))))));rintro _ _ ⟨rfl,rfl⟩;refine J5 Z Z ?_;refine A7 Z Z (A5 ?_);refine k1 ?_;refine B5 rfl (fun ht=>?_) (fun ht=>?_)
   rotate_left
   ·rw [if_pos h0] at ht;cases ht
   skip
   refine A3 (A4 Z Z (A4 Z Z (A6 (n_len_g Z Z) Z (A6 (U3 Z Z (by omega)) Z (A4 Z Z (C5 Z Z Z (A6 (E29 Z Z Z (by omega) (by omega)) Z (A6 (F11 Z) Z (G1 (H73 ((⟨s.From,(i:Int)+1⟩:Span)) TySz.out Z Z hv2 Z Z Z Z (fun _ _ _ h=>F78 h) (by intro j h1 h2;rcases j with _ | _ | _ | _ | _ | _ | _ | j<;>first | rfl | omega)) ?_)))))))));refine A5 ?_
   rw [hset]
   refine k4 (k4 (k1 (A3 (C5 Z Z Z (A4 Z Z (A5 ?_))))));refine k1 ?_;refine ⟨(i+1,Y7 out ((i:Int)+1)),⟨by dsimp only;omega,hst,(fun _=>?_),by rw [←hb];exact hp⟩,by dsimp only;omega,?_⟩
   ·unfold Y7;rw [hs];simp
   ·exact I82 ⟨le1 rfl,le1 rfl,le1 rfl,le1 rfl,trivial⟩ (J9 hH) (by repeat (first | exact F8 | refine F9 rfl ?_)) H41
theorem G83 {gf:Fr} {ob:Obs} (t:Table) (i:Nat) (hi:i < t.Rows.length) (h1:C1 ob 1=some (.box (pTable t).s1.cells)) :
  AL.Met Tryz.prog 247 [iS i,.one (.ref 1 0)] gf ob [] (fun rs ob'=>rs=[bS (!S4 t.Rows[i])]∧ob'=ob):=by
 have hv:t.Rows[((i:Nat):Int).toNat]?=some t.Rows[i]:=by rw [J21];simp [hi]
 obtain ⟨r,hr⟩:∃r,r=t.Rows[i]:=⟨_,rfl⟩
 rw [←hr] at hv ⊢
 refine AL.Met.intro Tryz.func247 (by decide) Z Z Z ?_
 refine k2 (A3 (A7 Z Z (A5 ?_)));refine k1 (k2 (A3 (A6 (A8 Z) Z (A6 (B4 Z h1 Z) Z (A4 Z Z (A6 (A9 Z (.pure _ _ _ _) Z (by omega) hv) Z (A6 (F5 Z Z) Z (C6 (H87 r) Z Z Z ?_))))))));rintro _ rfl;refine A6 (M3 Z) Z (A7 Z Z (A5 ?_));refine k1 (k10 ?_)
 exact X6 (A90 rfl rfl) (by repeat (first | exact F8 | refine F9 rfl ?_ | refine M1 _ ?_)) (fun _ _ h=>h) ⟨rfl,rfl⟩
theorem I45 (t:Table) (hl:t.Rows.length≤536870912):FnOk Tryz.prog 211 [pTable t] (fun rs=>rs=[pSpans (P7 (t.Rows.map fun r=>!S4 r))]):=by
 obtain ⟨l,hld⟩:∃l,l=t.Rows.map fun r=>!S4 r:=⟨_,rfl⟩
 have hll:l.length=t.Rows.length:=by rw [hld,J29]
 have ha:Answers Tryz.prog 247 1 (.box (pTable t).s1.cells) l:=fun gf ob h i hi=>by
  have h2:=G83 (gf:=gf) (ob:=ob) t i (by omega) h
  have e:l.getD i false=!S4 (t.Rows[i]'(by omega)):=by rw [J17];simp only [hld,J40,J14 (show i < t.Rows.length by omega)];rfl
  rw [e];exact h2
 have hm:=fun gf=>D65 (gf:=gf) (ob:=[(1,.box (pTable t).s1.cells)]) l 247 1 (.box (pTable t).s1.cells) (by omega) rfl (by omega) rfl ha
 rw [hll] at hm
 rw [←hld]
 refine FnOk.intro Tryz.func211 (by decide) Z Z Z Z ?_
 refine k2 (A3 (C2 (T8 1 Z Z Z) Z (A7 Z Z (A5 ?_))));refine k1 (k2 (A3 (A6 (A8 Z) Z (E9 Z Z Z Z (E4 Z Z (A6 (z7 Z Z) Z (A15 (hm _) Z Z Z ?_)))))));rintro _ _ ⟨rfl,rfl⟩;refine A7 Z Z (A5 ?_);refine k1 (H5 (Sees.freezeG (k:=750) Z Z) ?_)
 refine k10 ?_
 exact B9 (I5 rfl rfl rfl) rfl
theorem H88 (rows:List Row) (n:Nat) (hn:1≤n∧n≤32) (hl:rows.length≤536870912):FnOk Tryz.prog 212 [pRows rows,J0 n] (fun rs=>rs=[N1 (decide (D10 rows=((2 ^ n - 1:Nat):Int)))]):=by
 have hf:=I74 n hn
 obtain ⟨X,hX⟩:∃X:Int,X=((2 ^ n - 1:Nat):Int):=⟨_,rfl⟩
 rw [←hX] at hf ⊢
 refine FnOk.intro Tryz.func212 (by decide) Z Z Z Z ?_
 refine k2 (A3 (A7 Z Z (A5 ?_)));refine k1 (k2 (A3 (A7 Z Z (A5 ?_))));refine k1 (k2 (k2 (A3 (A4 Z Z (E4 Z Z (A4 Z Z (A5 ?_)))))));refine k1 (k3 (D2 (X:=Nat) (fun i=>([(1,B6 n),(5,I9 (.int .u32 (D10 (rows.take i)))),(8,C0 Row 3 rowC rows),(9,B6 rows.length),(10,B6 i)],[])) (fun i=>i≤rows.length) (fun i=>rows.length - i) 0 (Nat.zero_le _) (I81 ⟨le1 rfl,le1 rfl,le1 rfl,le1 rfl,le1 rfl,trivial⟩ trivial) ?_))
 intro i hi
 dsimp only at hi ⊢
 refine k2 (A3 (F4 Z Z Z (A5 ?_)));refine k1 (k2 ?_);refine B5 rfl (fun ht=>?_) (fun ht=>?_)
 ·have hlt:i < rows.length:=by have:=A0 ht;omega
  have hv:rows[i]?=some rows[i]:=by simp [hlt]
  have hst:D10 (rows.take (i+1))=I8 (D10 (rows.take i)) rows[i].Marks:=by unfold D10;rw [J22 hlt,J45];rfl
  obtain ⟨r,hr⟩:∃r,r=rows[i]:=⟨_,rfl⟩
  rw [←hr] at hv hst
  refine k5 (k1 (k2 (k3 (k2 (A3 (A6 (A9 Z (.pure _ _ _ _) Z (by omega) hv) Z (A6 (F5 Z Z) Z (C2 (H3 757 Z) Z (G1 (B7 TySz.out Z Z Z Z Z Z) (A5 ?_))))))))));refine k1 (A3 (A4 Z Z (A6 (A8 Z) Z (E9 Z Z Z Z (A6 (Z4 Z Z Z (fun _=>rfl)) Z (A7 Z Z (A5 ?_)))))));refine k4 (k1 (A3 (C5 Z Z Z (A4 Z Z (A5 ?_)))));refine k1 ?_;refine ⟨i+1,by omega,by omega,?_⟩
  rw [hst]
  exact I81 ⟨le1 rfl,le1 rfl,le1 rfl,le1 rfl,le1 rfl,trivial⟩ trivial
 ·have hil:i=rows.length:=by have:=A1 ht;omega
  rw [hil,J32]
  refine k6 (k2 (A3 (A4 Z Z (A4 Z Z (A6 (U3 Z Z (by omega)) Z (A6 (B60 Z Z (by omega)) Z (A6 (Q0 Z Z) Z (A7 Z Z (A5 ?_)))))))))
  rw [hf]
  refine k1 (k10 ?_)
  exact B9 (I5 rfl rfl rfl) rfl
theorem F98 {t:Table} (hr:L3 t.Rows) (h:J2 t=0):∃n:Nat,t.Parents=n∧(1≤n∧n≤32)∧∀r∈t.Rows,0≤r.Marks∧r.Marks < ((2 ^ n:Nat):Int):=by
 obtain ⟨h1,h2⟩:1≤t.Parents∧t.Parents≤32:=by
  unfold J2 at h
  split at h
  ·cases h
  ·omega
 refine ⟨t.Parents.toNat,by omega,by omega,I19 hr ?_⟩
 unfold J2 at h
 rw [if_neg (by omega)] at h
 cases hm:P6 t.Rows t.Parents.toNat
 ·rw [if_pos hm] at h;cases h
 ·rfl
theorem A01 {t:Table} {d:Bool} (h:J2 t=0):H1 t d=((P7 (t.Rows.map fun r=>!S4 r)).filter fun s=>!d||A28 t s,0):=by
 have hr:r7 t=(P7 (t.Rows.map fun r=>!S4 r),0):=by unfold r7;rw [if_neg (by rw [h];decide)]
 unfold H1
 rw [hr]
 exact if_neg (fun e=>e rfl)
theorem F32 {α:Type} (L:List α) (p:α→Bool) (k:Nat) (h:k < L.length):(L.take (k+1)).filter p=(L.take k).filter p++if p L[k]=true then [L[k]] else []:=by
 rw [J22 h,J64]
 congr 1
 rw [J61];split<;>rfl
theorem D16 (t:Table) (d:Bool) (hr:L3 t.Rows) (hl:t.Rows.length≤134217728) (h:J2 t=0):FnOk Tryz.prog 161 [pTable t,N1 (!d)] (fun rs=>rs=[pSpans (H1 t d).1]):=by
 obtain ⟨n,hn,hn2,hm⟩:=F98 hr h
 rw [A01 h]
 dsimp only
 obtain ⟨p,hp⟩:∃p:Span→Bool,p=fun s=>!d||A28 t s:=⟨_,rfl⟩
 rw [←hp]
 have hin:=C45 (t.Rows.map fun r=>!S4 r)
 rw [J29] at hin
 have hR:=I45 t (by omega)
 have horder:∀s∈P7 (t.Rows.map fun r=>!S4 r),s.From≤s.To:=I71 _
 obtain ⟨L,hL⟩:∃L,L=P7 (t.Rows.map fun r=>!S4 r):=⟨_,rfl⟩
 rw [←hL] at hin hR horder ⊢
 obtain ⟨hin1,hin2⟩:=hin
 refine FnOk.intro Tryz.func161 (by decide) Z Z Z Z ?_
 refine k2 (A3 (C2 (T8 2 Z Z Z) Z (A7 Z Z (A5 ?_))));refine k1 (k2 (A3 (C2 (X5 752 _ spanC Z) Z (A5 ?_))));refine k1 (k2 (k2 (A3 (A6 (D6 Z Z Z) Z (C6 (hR) Z Z Z ?_)))));rintro _ rfl;refine E4 Z Z (A4 Z Z (A5 ?_));refine k1 (k3 (D2 (X:=Nat) (fun k=>([(1,N0 (!d)),(2,.s (.one (.ref 2 0))),(5,.s (.one (.buf 752 Span 2 spanC ((L.take k).filter p)))),(9,C0 Span 2 spanC L),(10,B6 L.length),(11,B6 k)],[(2,.box (pTable t).s1.cells),(752,.spare ((L.take k).filter p).length 2 88)])) (fun k=>k≤L.length) (fun k=>L.length - k) 0 (Nat.zero_le _) (I81 ⟨le1 rfl,le1 rfl,le1 rfl,le1 rfl,le1 rfl,le1 rfl,trivial⟩ ⟨rfl,rfl,trivial⟩) ?_))
 intro k hk
 dsimp only at hk ⊢
 have hfl:=List.length_filter_le p (L.take k)
 have htl:(L.take k).length=k:=by rw [J36];omega
 refine k2 (A3 (F4 Z Z Z (A5 ?_)));refine k1 (k2 ?_);refine B5 rfl (fun ht=>?_) (fun ht=>?_)
 rotate_left
 ·have hkl:k=L.length:=by have:=A1 ht;omega
  rw [hkl,J32]
  refine k6 (k2 (A3 (A4 Z Z (A7 Z Z (A5 ?_)))));refine k1 (k10 ?_)
  exact B9 (I5 rfl rfl rfl) rfl
 have hlt:k < L.length:=by have:=A0 ht;omega
 have hst:=F32 L p k hlt
 have hv:L[k]?=some L[k]:=by simp [hlt]
 have hs:=hin2 _ (J26 hlt)
 have hso:=horder _ (J26 hlt)
 obtain ⟨s,hsd⟩:∃s,s=L[k]:=⟨_,rfl⟩
 rw [←hsd] at hst hv hs hso
 obtain ⟨F,hF⟩:∃F:Nat,s.From=F:=⟨s.From.toNat,by omega⟩
 obtain ⟨T,hT⟩:∃T:Nat,s.To=T:=⟨s.To.toNat,by omega⟩
 have hse:s=⟨F,T⟩:=by rw [←hF,←hT]
 have hdi:=I73 hn hn2 hm F T hse
 have hps:p s=(!d||A28 t s):=by rw [hp]
 rw [hse] at hv
 have hsub:((t.Rows.drop F).take (T - F)).length≤t.Rows.length:=by rw [J36,J31];omega
 have hde:=H88 ((t.Rows.drop F).take (T - F)) n hn2 (by omega)
 rw [hdi,←hn] at hde
 refine k5 (k1 (k2 (k3 (k2 (A3 (A6 (A9 Z (.pure _ _ _ _) Z (by omega) hv) Z (A6 (F5 Z Z) Z (C2 (H3 757 Z) Z (G1 (B7 TySz.out Z Z Z Z Z Z) (A5 ?_))))))))));refine L6 [(1,N0 (!d)),(2,.s (.one (.ref 2 0))),(5,.s (.one (.buf 752 Span 2 spanC ((L.take k).filter p)))),(7,.s (.one (.ref 757 0))),(9,C0 Span 2 spanC L),(10,B6 L.length),(11,B6 k)] [(2,.box (pTable t).s1.cells),(752,.spare ((L.take k).filter p).length 2 88),(757,.box [.p (.v (.int .i64 F)),.p (.v (.int .i64 T))])] (I81 ⟨le1 rfl,le1 rfl,le1 rfl,le1 rfl,le1 rfl,le1 rfl,le1 rfl,trivial⟩ ⟨rfl,rfl,rfl,trivial⟩) ?_
 refine k2 (D5 (by kernel_rfl) (by kernel_rfl) (D3 Z Z (D3 Z Z (D4 Z Z (fun hg=>by rw [hg];exact A8 Z) Z Z ?_))));refine D4 Z Z (fun hg=>by rw [hg];exact B4 Z Z Z) Z Z ?_;refine D4 Z Z (fun hg=>by rw [hg];exact A8 Z) Z Z ?_;refine D4 Z Z (fun hg=>by rw [hg];exact B4 Z Z Z) Z Z ?_;refine D4 Z Z (fun hg=>by rw [hg];exact A8 Z) Z Z ?_;refine D4 Z Z (fun hg=>by rw [hg];exact B4 Z Z Z) Z Z ?_;refine D4 Z Z (fun hg=>by have hq:=hg;(try simp at hq);rw [hg];exact X1 Z (.pure _ _ _ _) Z Z (by omega) (by omega) (by omega)) Z Z ?_;refine D4 Z Z (fun hg=>by rw [hg];exact A8 Z) Z Z ?_;refine D4 Z Z (fun hg=>by rw [hg];exact B4 Z Z Z) Z Z ?_;refine D4 Z Z (fun hg=>by have hq:=hg;(try simp at hq);rw [hg];exact O4 (hde) Z Z) Z Z ?_;refine B1 (K6 Z (fun h=>by first | rfl | (rw [h];rfl)) (fun h=>by first | rfl | (rw [h];rfl))) Z Z ?_;refine O2 ?_;refine k1 ?_;refine B5 rfl (fun ht=>?_) (fun ht=>?_)
 ·have hpt:p s=true:=by rw [hps];cases d<;>simp_all
  rw [if_pos hpt] at hst
  skip
  refine A3 (A4 Z Z (A6 (D6 Z Z Z) Z (A6 (C9 (c:=spanC) (ys:=[⟨F,T⟩]) (E0 Z Z Z Z G6) Z Z Z) Z (C2 (H4 Z Z Z (.pure _ _ _ _) (by (simp only [J16,J19];omega)) Z) Z (A7 Z Z (A5 ?_))))));refine k4 (k1 (A3 (C5 Z Z Z (A4 Z Z (A5 ?_)))));refine k1 ?_;refine ⟨k+1,by omega,by omega,?_⟩
  rw [hst,hse]
  exact I81 ⟨le1 rfl,le1 rfl,le1 rfl,le1 rfl,le1 rfl,le1 rfl,trivial⟩ ⟨rfl,rfl,trivial⟩
 ·have hpt:¬p s=true:=by rw [hps];cases d<;>simp_all
  rw [if_neg hpt,J35] at hst
  refine k5 (k4 (k1 (A3 (C5 Z Z Z (A4 Z Z (A5 ?_))))));refine k1 ?_;refine ⟨k+1,by omega,by omega,?_⟩
  rw [hst]
  exact I81 ⟨le1 rfl,le1 rfl,le1 rfl,le1 rfl,le1 rfl,le1 rfl,trivial⟩ ⟨rfl,rfl,trivial⟩
theorem F99 {gf:Fr} {ob:Obs} (l:List Bool) (i:Nat) (hi:i < l.length) (h1:C1 ob 9=some (.box [.p (.list Bool 1 C43 l)])) :
  AL.Met Tryz.prog 163 [iS i,.one (.ref 9 0)] gf ob [] (fun rs ob'=>rs=[bS (l.getD i false)]∧ob'=ob):=by
 have hv:l[((i:Nat):Int).toNat]?=some (l.getD i false):=by rw [J21];simp [hi]
 obtain ⟨b,hb⟩:∃b,b=l.getD i false:=⟨_,rfl⟩
 rw [←hb] at hv ⊢
 refine AL.Met.intro Tryz.func163 (by decide) Z Z Z ?_
 refine k2 (A3 (A7 Z Z (A5 ?_)));refine k1 (k2 (A3 (A6 (B4 Z h1 Z) Z (A4 Z Z (A6 (A9 Z (.pure _ _ _ _) Z (by omega) hv) Z (A6 (B3 Z Z) Z (A7 Z Z (A5 ?_))))))));refine k1 (k10 ?_)
 exact X6 (A90 rfl rfl) (by repeat (first | exact F8 | refine F9 rfl ?_ | refine M1 _ ?_)) (fun _ _ h=>h) ⟨rfl,rfl⟩
theorem I46 {t:Table} {ctx:Int} {d:Bool} (h:J2 t=0) (hc:¬(ctx < 0∨1048576 < ctx)):O1 t ctx d=(P7 ((List.range t.Rows.length).map (Q9 (H1 t d).1 ctx)),0):=by
 unfold O1
 rw [if_neg (by rw [A01 h];exact fun e=>e rfl),if_neg hc]
theorem I47 {t:Table} {ctx:Int} {d:Bool} (h:J2 t≠0):O1 t ctx d=([],J2 t):=by
 have hr:r7 t=([],J2 t):=by unfold r7;rw [if_pos h]
 have hi:H1 t d=([],J2 t):=by unfold H1;rw [hr];exact if_pos h
 unfold O1
 rw [hi]
 exact if_pos h
theorem H89 (L:List Span) (ctx:Int) (n k:Nat) (q:Nat) (A:Int) (i:Nat) (hi:A+(q:Int)=i) :
  ((List.range n).map fun j=>Q9 (L.take k) ctx j||decide (A≤(j:Int)∧(j:Int) < A+q)).set i true=(List.range n).map fun j=>Q9 (L.take k) ctx j||decide (A≤(j:Int)∧(j:Int) < A+(q+1:Nat)):=by
 refine y4 n i _ _ _ (fun _=>?_) (fun j _ hj=>?_)
 ·rw [decide_eq_true (by omega),Bool.or_true]
 ·congr 1
  exact decide_eq_decide.2 (by omega)
theorem H90 (t:Table) (ctx:Int) (d:Bool) (hr:L3 t.Rows) (hl:t.Rows.length≤134217728) (hx:V6 t.Rows≤536870912) :
  FnOk Tryz.prog 97 [pTable t,J0 ctx,N1 d] (fun rs=>rs=[pSpans (O1 t ctx d).1,J0 (O1 t ctx d).2]):=by
 refine FnOk.intro Tryz.func97 (by decide) Z Z Z Z ?_
 refine k2 (A3 (C2 (T8 3 Z Z Z) Z (A7 Z Z (A7 Z Z (A5 ?_)))));refine k1 (k2 (k2 (A3 (A6 (D6 Z Z Z) Z (C6 (E71 t hr (by omega) (by omega)) Z Z Z ?_)))));rintro _ rfl;refine A7 Z Z (A5 ?_);refine k1 (k2 (A3 (A4 Z Z (A6 (O6 Z Z) Z (A5 ?_)))));refine k1 ?_;refine B5 rfl (fun ht=>?_) (fun ht=>?_)
 ·have h:=A0 ht
  refine k2 (A3 (A4 Z Z (A6 (M5 _ 2 spanC) Z (A7 Z Z (A5 ?_)))));refine k1 (k10 (k11 ?_))
  exact B9 (y7 rfl rfl rfl rfl rfl) (by rw [I47 h])
 have h:=A1 ht
 have h0:J2 t=0:=by omega
 refine k5 (k1 (k2 (k2 (A3 (A4 Z Z (F4 Z Z Z (A4 Z Z (B2 Z Z Z Z (fun hg=>by rw [hg];exact C3 Z Z) ?_))))))));refine B2 Z Z Z Z (fun hg=>by rw [hg];exact R0 Z Z) ?_;refine J5 Z Z ?_;refine A5 ?_;refine k1 ?_;refine B5 rfl (fun ht=>?_) (fun ht=>?_)
 ·have h1:=A0 (or_pick.symm.trans ht)
  refine k2 (A3 (A6 (M5 _ 2 spanC) Z (A7 Z Z (A5 ?_))));refine k1 (k10 (k11 ?_))
  exact B9 (y7 rfl rfl rfl rfl rfl) (by unfold O1;rw [if_neg (by rw [A01 h0];exact fun e=>e rfl),if_pos (by omega)])
 have h1:=A1 (or_pick.symm.trans ht)
 rw [I46 h0 (by omega)]
 have hI:=D16 t d hr hl h0
 have hin:=E11 t d
 have hup:=E12 t d
 obtain ⟨L,hL⟩:∃L,L=(H1 t d).1:=⟨_,rfl⟩
 rw [←hL] at hin hI hup ⊢
 obtain ⟨hin1,hin2⟩:=hin
 obtain ⟨n,hn⟩:∃n,n=t.Rows.length:=⟨_,rfl⟩
 rw [←hn] at hin1 hin2 hl ⊢
 refine L6 [(1,B6 ctx),(2,N0 d),(3,.s (.one (.ref 3 0)))] [(3,.box (pTable t).s1.cells)] (I81 ⟨le1 rfl,le1 rfl,le1 rfl,trivial⟩ ⟨rfl,trivial⟩) ?_
 refine k5 (k1 (k2 (A3 (A6 (A8 Z) Z (E9 Z Z Z Z (E4 Z Z (C2 (W2 753 Bool C43 false Z Z (by omega) (by omega) (fun _=>by first | exact ⟨⟨rfl,rfl⟩,trivial⟩ | exact ⟨N3 _ _ _,trivial⟩) (by first | rfl | (simp [H6,I4,Ob.free,SV.free,S1.free,TC.free]<;>rfl))) Z ?_)))))));refine C2 (H3 9 Z) Z (G1 (B7 TySz.out Z Z Z Z Z Z) (A5 ?_))
 rw [←hn,J21]
 refine k1 (k2 (A3 (A7 Z Z (A5 ?_))));refine k1 (k2 (k2 (A3 (A6 (D6 Z Z Z) Z (A4 Z Z (A6 (M3 Z) Z (C6 (hI) Z Z Z ?_)))))));rintro _ rfl;refine E4 Z Z (A4 Z Z (A5 ?_));refine k1 (k3 ?_);refine D2 (X:=Nat × Int) (fun x=>([(1,B6 ctx),(9,.s (.one (.ref 9 0))),(10,B6 x.2),(33,C0 Span 2 spanC L),(34,B6 L.length),(35,B6 x.1)],[(9,.box [.mut 753]),(753,.arr Bool 1 C43 ((List.range n).map (Q9 (L.take x.1) ctx)))])) (fun x=>x.1≤L.length∧(0≤x.2∧x.2≤n)∧∀(hk:x.1 < L.length) (i:Nat),L[x.1].From - ctx≤i→(i:Int) < x.2→Q9 (L.take x.1) ctx i=true) (fun x=>L.length - x.1) (0,0) ⟨Nat.zero_le _,⟨Int.le_refl _,by omega⟩,fun _ i _ h=>by dsimp only at h;omega⟩ ?_ ?_
 ·have e:List.replicate n false=(List.range n).map (Q9 (L.take 0) ctx):=by
   refine List.ext_getElem (by simp) fun q h1 h2=>?_
   simp [Q9]
  rw [e]
  exact I81 ⟨le1 rfl,le1 rfl,le1 rfl,le1 rfl,le1 rfl,le1 rfl,trivial⟩ ⟨rfl,rfl,trivial⟩
 rintro ⟨k,e⟩ ⟨hk,he,hinv⟩
 dsimp only at hk he hinv ⊢
 refine k2 (A3 (F4 Z Z Z (A5 ?_)));refine k1 (k2 ?_);refine B5 rfl (fun ht=>?_) (fun ht=>?_)
 rotate_left
 ·have hkl:k=L.length:=by have:=A1 ht;omega
  rw [hkl,J32]
  obtain ⟨sh,hsh⟩:∃sh,sh=(List.range n).map (Q9 L ctx):=⟨_,rfl⟩
  have hshl:sh.length=n:=by rw [hsh];simp
  rw [←hsh]
  have ha:Answers Tryz.prog 163 9 (.box [.p (.list Bool 1 C43 sh)]) sh:=fun gf ob h i hi=>F99 sh i hi h
  have hm:=fun gf=>D65 (gf:=gf) (ob:=[(9,.box [.p (.list Bool 1 C43 sh)])]) sh 163 9 (.box [.p (.list Bool 1 C43 sh)]) (by omega) rfl (by omega) rfl ha
  refine H5 (Sees.freeze (k:=753) Z) ?_
  refine L6 [(9,.s (.one (.ref 9 0)))] [(9,.box [.p (.list Bool 1 C43 sh)])] (I81 ⟨le1 rfl,trivial⟩ ⟨rfl,trivial⟩) ?_
  refine k6 (k2 (A3 (E9 Z Z Z Z (E4 Z Z (A6 (z7 Z Z) Z (A15 (hm _) Z Z Z ?_))))));rintro _ _ ⟨rfl,rfl⟩;refine A7 Z Z (A7 Z Z (A5 ?_));refine k1 (H5 (Sees.freezeG (k:=750) Z Z) ?_)
  refine k10 ?_
  exact B9 (y7 rfl rfl rfl rfl rfl) rfl
 have hlt:k < L.length:=by have:=A0 ht;omega
 have hv:L[k]?=some L[k]:=by simp [hlt]
 have hs:=hin2 _ (J26 hlt)
 have hinv:=hinv hlt
 have hsucc:=F56 L ctx k hlt
 have hnext:∀hk1:k+1 < L.length,L[k].From≤L[k+1].From:=fun hk1=>up_get hup hk1
 obtain ⟨s,hsd⟩:∃s,s=L[k]:=⟨_,rfl⟩
 rw [←hsd] at hv hs hinv hsucc hnext
 obtain ⟨sF,sT⟩:=s
 dsimp only at hs hinv hsucc hnext
 refine k5 (k1 (k2 (k3 (k2 (A3 (A6 (A9 Z (.pure _ _ _ _) Z (by omega) hv) Z (A6 (F5 Z Z) Z (C2 (H3 757 Z) Z (G1 (B7 TySz.out Z Z Z Z Z Z) (A5 ?_))))))))));refine L6 [(1,B6 ctx),(9,.s (.one (.ref 9 0))),(10,B6 e),(12,.s (.one (.ref 757 0))),(33,C0 Span 2 spanC L),(34,B6 L.length),(35,B6 k)] [(9,.box [.mut 753]),(753,.arr Bool 1 C43 ((List.range n).map (Q9 (L.take k) ctx))),(757,.box [.p (.v (.int .i64 sF)),.p (.v (.int .i64 sT))])] (I81 ⟨le1 rfl,le1 rfl,le1 rfl,le1 rfl,le1 rfl,le1 rfl,le1 rfl,trivial⟩ ⟨rfl,rfl,rfl,trivial⟩) ?_
 refine k2 (A3 (A6 (A8 Z) Z (E9 Z Z Z Z (A4 Z Z (A6 (U3 Z Z (by omega)) Z (A4 Z Z (A6 (n_max Z Z) Z (A7 Z Z (A5 ?_)))))))));refine k1 (k2 ?_)
 have hal:((List.range n).map (Q9 (L.take k) ctx)).length=n:=by simp
 refine A3 (A6 (A8 Z) Z (E9 Z Z Z Z (A4 Z Z (C5 Z Z Z (E9 Z Z Z Z (A6 (H69 Z Z) Z (A6 (F69 Z Z) Z (A7 Z Z (A5 ?_)))))))))
 rw [hal]
 obtain ⟨A,hA⟩:∃A:Int,A=if e > sF - ctx then e else sF - ctx:=⟨_,rfl⟩
 obtain ⟨E,hE⟩:∃E:Int,E=if (n:Int) < sT+ctx then (n:Int) else sT+ctx:=⟨_,rfl⟩
 have hA1:e≤A∧sF - ctx≤A∧(A=e∨A=sF - ctx):=by rw [hA];split<;>omega
 have hE1:E≤n∧E≤sT+ctx∧(E=n∨E=sT+ctx):=by rw [hE];split<;>omega
 rw [←hA,←hE]
 refine k1 (k2 (A3 (A4 Z Z (A7 Z Z (A5 ?_)))));refine k1 (k3 ?_);refine D2 (X:=Nat) (fun q=>([(1,B6 ctx),(9,.s (.one (.ref 9 0))),(10,B6 E),(14,B6 (A+q)),(33,C0 Span 2 spanC L),(34,B6 L.length),(35,B6 k)],[(9,.box [.mut 753]),(753,.arr Bool 1 C43 ((List.range n).map fun j=>Q9 (L.take k) ctx j||decide (A≤(j:Int)∧(j:Int) < A+q)))])) (fun q=>q≤(E - A).toNat) (fun q=>(E - A).toNat - q) 0 (Nat.zero_le _) ?_ ?_
 ·have e0:((List.range n).map fun j=>Q9 (L.take k) ctx j||decide (A≤(j:Int)∧(j:Int) < A+((0:Nat):Int)))=(List.range n).map (Q9 (L.take k) ctx):=by
   refine List.map_congr_left fun j _=>?_
   rw [decide_eq_false (by omega),Bool.or_false]
  dsimp only
  rw [e0,show A+((0:Nat):Int)=A by omega]
  exact I81 ⟨le1 rfl,le1 rfl,le1 rfl,le1 rfl,le1 rfl,le1 rfl,le1 rfl,trivial⟩ ⟨rfl,rfl,trivial⟩
 intro q hq
 dsimp only at hq ⊢
 have hql:((List.range n).map fun j=>Q9 (L.take k) ctx j||decide (A≤(j:Int)∧(j:Int) < A+q)).length=n:=by simp
 refine k2 (k2 (A3 (A4 Z Z (A4 Z Z (F4 Z Z Z (A5 ?_))))));refine k1 ?_;refine B5 rfl (fun ht=>?_) (fun ht=>?_)
 ·have h2:=A0 ht
  have hset:=H89 L ctx n k q A (A+q).toNat (by omega)
  refine k5 (k1 (k2 (k3 (A3 (E9 Z Z Z Z (A4 Z Z (A6 (E2 Z Z Z (by omega) (by (first | omega | (rw [hql];omega)))) Z (G1 (H0 TySz.out Z Z (by (rw [hql];omega)) Z Z) ?_))))))));refine A5 ?_
  rw [hset]
  refine k4 (k1 (A3 (A4 Z Z (C5 Z Z Z (A7 Z Z (A5 ?_))))));refine k1 ?_;refine ⟨q+1,by omega,by omega,?_⟩
  rw [show A+((q+1:Nat):Int)=A+q+1 by omega]
  exact I81 ⟨le1 rfl,le1 rfl,le1 rfl,le1 rfl,le1 rfl,le1 rfl,le1 rfl,trivial⟩ ⟨rfl,rfl,trivial⟩
 have h2:=A1 ht
 have hqE:q=(E - A).toNat:=by omega
 have hfin:((List.range n).map fun j=>Q9 (L.take k) ctx j||decide (A≤(j:Int)∧(j:Int) < A+q))=(List.range n).map (Q9 (L.take (k+1)) ctx):=by
  refine List.map_congr_left fun j hj=>?_
  have hjn:=List.mem_range.1 hj
  rw [hsucc j]
  by_cases hj1:sF - ctx≤j∧(j:Int) < e
  ·rw [hinv j hj1.1 hj1.2,Bool.true_or,Bool.true_or]
  ·congr 1
   exact decide_eq_decide.2 (by omega)
 rw [hfin]
 refine k6 (k7 (k7 (k8 Z (k4 (k1 (A3 (C5 Z Z Z (A4 Z Z (A5 ?_)))))))));refine k1 ?_;refine ⟨(k+1,E),⟨by dsimp only;omega,by dsimp only;omega,fun hk1 i hi hiE=>?_⟩,by dsimp only;omega,I81 ⟨le1 rfl,le1 rfl,le1 rfl,le1 rfl,le1 rfl,le1 rfl,trivial⟩ ⟨rfl,rfl,trivial⟩⟩
 dsimp only at hk1 hi hiE ⊢
 have:=hnext hk1
 rw [hsucc i,decide_eq_true (by omega),Bool.or_true]
end Go.Proofs.YtbiadkkamhpdnaaGreatDoor
