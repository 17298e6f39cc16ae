/- Walks of the program's functions. -/
import Derived.Test.YtbiadkkamhpdnaaGreatDoorFc
import Derived.Test.YtbiadkkamhpdnaaGreatDoorFs
import Derived.Test.YtbiadkkamhpdnaaGreatDoorFb
import Derived.Test.YtbiadkkamhpdnaaGreatDoorFa
set_option linter.unusedSimpArgs false
namespace Go.Proofs.YtbiadkkamhpdnaaGreatDoor
open Go Go.AL
set_option maxRecDepth 100000
set_option maxHeartbeats 1000000
theorem tid_old {gf:Fr} {ob:Obs} (names:List Str) (s:Str) (hs:s∈names) (h0:C4 ob 710=some (.box [.mut 711,.buf 712 Str 1 L0 names])) (h1:C4 ob 711=some (.map Str B25 (A16 names 0))) :
  AL.Met Tryz.prog 218 [.one (.ref 710 0),.one (.p (.v (.string ⟨s.toArray⟩)))] gf ob [] (fun rs ob'=>rs=[.one (.p (.v (.int .i64 (I5 names s 0))))]∧ob'=ob):=by
 have hg:=F89 s names 0 hs
 refine AL.Met.intro Tryz.func218 (by decide) Z Z Z ?_
 refine k2 ?_
 refine A4 (A3 (A6 Z Z) Z (A7 ?_))
 refine k1 (k2 ?_)
 refine A4 (A3 (A5 Z Z) Z (A3 (B2 Z) Z (A3 (A8 Z) Z (A3 (A9 Z h0 Z) Z (A3 (A5 Z Z) Z (A3 (G93 (s) (r:=some (.v (.int .i64 (I5 names s 0)))) Z h1 Z E28 E29 (hg)) Z (A3 (A5 Z Z) Z (A3 (B3 Z Z) Z (A3 (B3 Z Z) Z (A3 (A6 Z Z) Z (A3 (A6 Z Z) Z (A7 ?_))))))))))))
 refine k1 (k2 (k2 ?_))
 refine A4 (A3 (A5 Z Z) Z (A3 (F7 Z) Z (A7 ?_)))
 refine k1 ?_
 refine B4 rfl (fun ht=>?_) (fun ht=>?_)
 ·cases ht
 refine k5 (k1 (k2 ?_))
 refine A4 (A3 (A5 Z Z) Z (A3 (A6 Z Z) Z (A7 ?_)))
 refine k1 (k10 ?_)
 exact H3 (U2 rfl rfl) (by repeat (first | exact C5 | refine tail_cons rfl ?_ | refine D5 _ ?_)) (fun _ _ h=>h) ⟨rfl,rfl⟩
theorem tid_new {gf:Fr} {ob:Obs} (names:List Str) (s:Str) (hs:s∉names) (hl:names.length≤1073741823) (h0:C4 ob 710=some (.box [.mut 711,.buf 712 Str 1 L0 names])) (h1:C4 ob 711=some (.map Str B25 (A16 names 0)))
  (h2:C4 ob 712=some (.spare names.length 1 9)) :
  AL.Met Tryz.prog 218 [.one (.ref 710 0),.one (.p (.v (.string ⟨s.toArray⟩)))] gf ob [712] (fun rs ob'=>rs=[.one (.p (.v (.int .i64 names.length)))]∧ob'=(710,.box [.mut 711,.buf 712 Str 1 L0 (names++[s])])::(712,.spare (names++[s]).length 1 9)::Obs.forget 712 ((711,.map Str B25 (A16 names 0++[(s,.v (.int .i64 names.length))]))::ob)):=by
 have hg:=E80 s names 0 hs
 refine AL.Met.intro Tryz.func218 (by decide) Z Z Z ?_
 refine k2 ?_
 refine A4 (A3 (A6 Z Z) Z (A7 ?_))
 refine k1 (k2 ?_)
 refine A4 (A3 (A5 Z Z) Z (A3 (B2 Z) Z (A3 (A8 Z) Z (A3 (A9 Z h0 Z) Z (A3 (A5 Z Z) Z (A3 (G93 (s) (r:=none) Z h1 Z E28 E29 (hg)) Z (A3 (A5 Z Z) Z (A3 (B3 Z Z) Z (A3 (B3 Z Z) Z (A3 (A6 Z Z) Z (A3 (A6 Z Z) Z (A7 ?_))))))))))))
 refine k1 (k2 (k2 ?_))
 refine A4 (A3 (A5 Z Z) Z (A3 (F7 Z) Z (A7 ?_)))
 refine k1 ?_
 refine B4 rfl (fun ht=>?_) (fun ht=>?_)
 ·refine k2 ?_
  refine A4 (A3 (A5 Z Z) Z (A3 (B2 Z) Z (A3 (A8 Z) Z (A3 (A9 Z h0 Z) Z (A3 (F4 Z (.buf _ _ _ _ _)) Z (A3 (A6 Z Z) Z (A7 ?_)))))))
  refine k1 (k2 ?_)
  refine A4 (A3 (A5 Z Z) Z (A3 (B2 Z) Z (A3 (A8 Z) Z (A3 (A9 Z h0 Z) Z (A3 (A5 Z Z) Z (A3 (A5 Z Z) Z (E1 (J67 (s) Z h1 Z Z Z E28 E29 (hg)) (A7 ?_))))))))
  refine k1 ?_
  have h0':C4 ((711,Ob.map Str B25 (A16 names 0++[(s,.v (.int .i64 names.length))]))::ob) 710=some (.box [.mut 711,.buf 712 Str 1 L0 names]):=by rw [B6 (by decide)];exact h0
  have h2':C4 ((711,Ob.map Str B25 (A16 names 0++[(s,.v (.int .i64 names.length))]))::ob) 712=some (.spare names.length 1 9):=by rw [B6 (by decide)];exact h2
  have h0'':C4 ((712,Ob.spare (names++[s]).length 1 9)::Obs.forget 712 ((711,Ob.map Str B25 (A16 names 0++[(s,.v (.int .i64 names.length))]))::ob)) 710=some (.box [.mut 711,.p (.list Str 1 L0 names)]):=by
   rw [B6 (by decide),O4,h0'];rfl
  refine A4 (A3 (A5 Z Z) Z (A3 (A5 Z Z) Z (A3 (B2 Z) Z (A3 (A8 Z) Z (A3 (A9 Z h0' Z) Z (A3 (A5 Z Z) Z (A3 (E2 (c:=L0) (ys:=[s]) (E9 Z Z Z Z I4) Z Z Z) Z (C7 (L1 Z h2' Z (.pure _ _ _ _) (by (simp only [K58,K61];omega)) Z) Z (A3 (B2 Z) Z (A3 (A8 Z) Z (E1 (B7 TySz.out Z h0'' Z Z Z Z) (A7 ?_))))))))))))
  refine k1 (k2 ?_)
  refine A4 (A3 (A5 Z Z) Z (A3 (A6 Z Z) Z (A7 ?_)))
  refine k1 (k10 ?_)
  exact H3 (U2 rfl rfl) (by repeat (first | exact C5 | refine tail_cons rfl ?_ | refine D5 _ ?_)) (fun _ _ h=>h) ⟨rfl,rfl⟩
 ·cases ht
theorem H96 (files:List (List Str)) (i m:Nat):(N3 files i).all (TC.free m)=true:=by
 rw [List.all_eq_true]
 intro t ht
 unfold N3 at ht
 obtain ⟨r,_,rfl⟩:=List.mem_map.1 ht
 split<;>rfl
theorem J03 {files:List (List Str)} {i:Nat} (b x:TC) (m:Nat):(((N3 files i).set i b).map (TC.forget m)).set i x=(N3 files i).set i x:=by
 have e1:(N3 files i).map (TC.forget m)=N3 files i:=by
  unfold N3
  rw [K93]
  apply List.map_congr_left
  intro r _
  simp only [Function.comp]
  split<;>rfl
 rw [List.map_set,e1,List.set_set]
theorem H97 {files:List (List Str)} {i:Nat} (b x:TC) (m m':Nat):((((N3 files i).set i b).map (TC.forget m)).map (TC.forget m')).set i x=(N3 files i).set i x:=by
 have e1:∀m,(N3 files i).map (TC.forget m)=N3 files i:=by
  intro m
  unfold N3
  rw [K93]
  apply List.map_congr_left
  intro r _
  simp only [Function.comp]
  split<;>rfl
 rw [List.map_set,e1,List.map_set,e1,List.set_set]
theorem F62 (files:List (List Str)) (hn:files.length≤1048576) (hl:files.flatten.length≤536870911):FnOk Tryz.prog 175 [pStrss files] (fun rs=>rs=[pIntss (files.map (O7 (I6 files))),Z6 (I6 files)]):=by
 refine FnOk.intro Tryz.func175 (by decide) Z Z Z Z ?_
 refine k2 ?_
 refine A4 (A3 (A6 Z Z) Z (A3 (A6 Z Z) Z (A7 ?_)))
 refine k1 (k2 ?_)
 refine A4 (C7 (I94 711 Str B25 Z) Z (A3 (F3 Z) Z (C7 (T7 710 Z Z Z) Z (A3 (A6 Z Z) Z (A7 ?_)))))
 refine k1 (k2 ?_)
 refine E6 (K28 712 Str 1 L0 9 (kb:=710) (o:=1) Z Z Z) ?_
 refine A4 (A3 (A5 Z Z) Z (A3 (F4 Z (.pure _ _ _ _)) Z (C7 (x6 20 Unit (fun _ _=>.v (.slice none 0 0)) () Z Z (by omega) (by omega) (fun _=>by first | exact ⟨⟨rfl,rfl⟩,trivial⟩ | exact ⟨P1 _ _ _,trivial⟩) (by first | rfl | (simp [G3,I1,Ob.free,SV.free,S1.free,TC.free]<;>rfl))) Z ?_)));refine A3 (A6 Z Z) Z (A7 ?_)
 refine k1 (k2 (k2 ?_))
 refine E6 (K52 20 Z) ?_
 have hz:((List.replicate ((files.length:Nat):Int).toNat ()).map fun x=>TC.p ((fun (_:Unit) (_:Nat)=>Cell.v (.slice none 0 0)) x 0))=N3 files 0:=by
  rw [K62,←I28];simp
 have hz2:(List.replicate ((files.length:Nat):Int).toNat ()).length=files.length:=by simp
 rw [hz,hz2]
 refine A4 (A3 (A5 Z Z) Z (A3 (F4 Z (.pure _ _ _ _)) Z (A3 (A5 Z Z) Z (A7 ?_))))
 refine k1 (k3 ?_)
 refine E4 (X:=Nat) (fun i=>([(4,.s (.one (.ref 710 0))),(5,.s (.one (.mut 20))),(16,D3 (List Str) 1 strsC files),(17,C2 files.length),(18,C2 i)],[(710,.box [.mut 711,.buf 712 Str 1 L0 (M4 files i 0)]),(711,.map Str B25 (A16 (M4 files i 0) 0)),(712,.spare (M4 files i 0).length 1 9),(20,.tarr files.length 1 (N3 files i))])) (fun i=>i≤files.length) (fun i=>files.length - i) 0 (Nat.zero_le _) ?_ ?_
 ·rw [show M4 files 0 0=[] from rfl]
  exact K19 ⟨le1 rfl,le1 rfl,le1 rfl,le1 rfl,le1 rfl,trivial⟩ ⟨rfl,rfl,rfl,rfl,trivial⟩
 intro i hi
 dsimp only at hi ⊢
 refine k2 ?_
 refine A4 (A3 (E5 Z Z) Z (A7 ?_))
 refine k1 (k2 ?_)
 refine B4 rfl (fun ht=>?_) (fun ht=>?_)
 ·have hlt:i < files.length:=by have:=A0 ht;omega
  obtain ⟨f,hf⟩:∃f,f=files.getD i []:=⟨_,rfl⟩
  have hv:files[i]?=some f:=by rw [hf];simp [hlt]
  have hfl:f.length≤files.flatten.length:=by
   have h1:f∈files:=K75 hv
   have:∀(fs:List (List Str)),f∈fs→f.length≤fs.flatten.length:=by
    intro fs
    induction fs with
    | nil=>intro h;simp at h
    | cons x r ih =>
     intro h
     simp only [K72,K56]
     rcases List.mem_cons.1 h with rfl | h
     ·omega
     ·have:=ih h;omega
   exact this files h1
  have hrl:(N3 files i).length=files.length:=by simp [N3]
  refine k5 (k1 (k2 (k3 (k2 ?_))))
  refine A4 (A3 (A5 Z Z) Z (A3 (C0 Z (.pure _ _ _ _) Z (by omega) hv) Z (A3 (C9 Z Z) Z (A3 (A6 Z Z) Z (A3 (A6 Z Z) Z (A7 ?_))))))
  refine k1 (k2 ?_)
  refine A4 (A3 (A5 Z Z) Z (A3 (F4 Z (.pure _ _ _ _)) Z (A3 (A5 Z Z) Z (A7 ?_))))
  refine k1 (k3 ?_)
  refine E6 (K44 713 Int 1 G9 3 (kb:=20) (o:=i) Z (J42 hlt) (by simp [G3,I1,Ob.free,SV.free,S1.free,TC.free,H96];repeat' (first | rfl | constructor))) ?_
  refine E4 (X:=Nat) (fun j=>([(4,.s (.one (.ref 710 0))),(5,.s (.one (.mut 20))),(6,C2 i),(16,D3 (List Str) 1 strsC files),(17,C2 files.length),(18,C2 i),(23,D3 Str 1 L0 f),(24,C2 f.length),(25,C2 j)],[(20,.tarr files.length 1 ((N3 files i).set i (.buf 713 Int 1 G9 (O7 (I6 files) (f.take j))))),(710,.box [.mut 711,.buf 712 Str 1 L0 (M4 files i j)]),(711,.map Str B25 (A16 (M4 files i j) 0)),(712,.spare (M4 files i j).length 1 9),(713,.spare (O7 (I6 files) (f.take j)).length 1 3)])) (fun j=>j≤f.length) (fun j=>f.length - j) 0 (Nat.zero_le _) ?_ ?_
  ·exact K19 ⟨le1 rfl,le1 rfl,le1 rfl,le1 rfl,le1 rfl,le1 rfl,le1 rfl,le1 rfl,le1 rfl,trivial⟩ ⟨rfl,rfl,rfl,rfl,rfl,trivial⟩
  intro j hj
  dsimp only at hj ⊢
  refine k2 ?_
  refine A4 (A3 (E5 Z Z) Z (A7 ?_))
  refine k1 (k2 ?_)
  refine B4 rfl (fun ht=>?_) (fun ht=>?_)
  ·have hlt2:j < f.length:=by have:=A0 ht;omega
   obtain ⟨s,hs⟩:∃s,s=f[j]:=⟨_,rfl⟩
   have hvs:f[j]?=some s:=by rw [hs];simp [hlt2]
   have hstep:=G62 files i j s (by rw [←hf];exact hvs)
   obtain ⟨names,hnm⟩:∃names,names=M4 files i j:=⟨_,rfl⟩
   have hnl:=E81 files i j
   obtain ⟨rest,hrest⟩:=D81 files i (j+1)
   obtain ⟨ids,hids⟩:∃ids,ids=O7 (I6 files) (f.take j):=⟨_,rfl⟩
   have hil:ids.length=j:=by rw [hids];simp [O7];omega
   have hnext:O7 (I6 files) (f.take (j+1))=ids++[I5 (I6 files) s 0]:=by
    rw [hids,K67 hlt2,←hs];unfold O7;rw [K73];rfl
   rw [hstep] at hrest
   rw [←hnm] at hstep hnl hrest ⊢
   rw [←hids]
   have hTi:((N3 files i).set i (.buf 713 Int 1 G9 ids))[((i:Nat):Int).toNat]?=some (.buf 713 Int 1 G9 ids):=by
    rw [K62,List.getElem?_set_self (by rw [hrl];omega)]
   have hTi2:(((N3 files i).set i (.buf 713 Int 1 G9 ids)).map (TC.forget 712))[((i:Nat):Int).toNat]?=some (.buf 713 Int 1 G9 ids):=by
    rw [K88,hTi];rfl
   refine k5 (k1 (k2 (k3 (k2 ?_))))
   refine A4 (A3 (C0 Z (.pure _ _ _ _) Z (by omega) hvs) Z (A3 (C9 Z Z) Z (A3 (A6 Z Z) Z (A7 ?_))))
   by_cases hmem:s∈names
   ·have hns:K7 names s=names:=by unfold K7;rw [if_pos hmem]
    rw [hns] at hstep hrest
    have hpl:I5 (I6 files) s 0=I5 names s 0:=by rw [hrest];exact B64 s rest names 0 hmem
    refine J9 ?_
    refine L8 ((9,J0 s)::[(4,.s (.one (.ref 710 0))),(5,.s (.one (.mut 20))),(6,C2 i),(16,D3 (List Str) 1 strsC files),(17,C2 files.length),(18,C2 i),(23,D3 Str 1 L0 f),(24,C2 f.length),(25,C2 j)]) [(20,.tarr files.length 1 ((N3 files i).set i (.buf 713 Int 1 G9 ids))),(710,.box [.mut 711,.buf 712 Str 1 L0 names]),(711,.map Str B25 (A16 names 0)),(712,.spare names.length 1 9),(713,.spare ids.length 1 3)] (K19 ⟨le1 rfl,le1 rfl,le1 rfl,le1 rfl,le1 rfl,le1 rfl,le1 rfl,le1 rfl,le1 rfl,le1 rfl,trivial⟩ ⟨rfl,rfl,rfl,rfl,rfl,trivial⟩) ?_
    refine O3 [12,10,8] [[],[8],[10,8],[12,10,8]] [(8,([],[])),(10,([713],[34])),(12,([],[]))] [(0,[]),(1,[]),(2,[]),(3,[]),(4,[]),(5,[]),(6,[]),(7,[]),(8,[]),(9,[8]),(10,[8]),(11,[10,8]),(12,[10,8])] [(0,[8]),(0,[10,8]),(1,[8]),(1,[10,8]),(2,[8]),(3,[8]),(4,[8]),(5,[8])] (by kernel_rfl) (by kernel_rfl) (D4 Z Z (by kernel_rfl) Z Z (A5 Z Z) (D4 Z Z (by kernel_rfl) Z Z (A5 Z Z) (D4 Z Z (by kernel_rfl) Z Z (A5 Z Z) (D4 Z Z (by kernel_rfl) Z Z (A5 Z Z) (D4 Z Z (by kernel_rfl) Z Z (Q5 Z Z Z (by omega) (by omega)) (D4 Z Z (by kernel_rfl) Z Z (x5 Z Z (by first | exact hTi | exact hTi2)) ?_))))));refine D4 Z Z (by kernel_rfl) Z Z (A5 Z Z) (D4 Z Z (by kernel_rfl) Z Z (A5 Z Z) (W0 Z Z (by kernel_rfl) Z Z (r_met (fun gf=>tid_old names s hmem Z Z) Z Z) Z (D4 Z Z (by kernel_rfl) Z Z (E2 (c:=G9) (ys:=[I5 names s 0]) (E9 Z Z Z Z I4) Z Z Z) (W0 Z Z (by kernel_rfl) Z Z (A87 (fun frc hU=>L1 (T5 hU Z) Z (T5 hU Z) (.pure _ _ _ _) (by (simp only [K58,K61];omega)) Z)) Z (D4 Z Z (by kernel_rfl) Z Z (Q5 Z Z Z (by omega) (by omega)) (W0 Z Z (by kernel_rfl) Z Z (C77 (fun frc hU=>B33 TySz.out (T5 hU Z) Z (by (simp;omega)) (T5 hU Z) Z)) Z ?_))))));refine C76 (by kernel_rfl) rfl ?_ ?_
    ·refine K6 Z Z (by kernel_rfl) Z Z (A5 Z Z) (K6 Z Z (by kernel_rfl) Z Z (A5 Z Z) (K6 Z Z (by kernel_rfl) Z Z (A5 Z Z) (K6 Z Z (by kernel_rfl) Z Z (A5 Z Z) (K6 Z Z (by kernel_rfl) Z Z (A5 Z Z) (K6 Z Z (by kernel_rfl) Z Z (A5 Z Z) (K6 Z Z (by kernel_rfl) Z Z (Q5 Z Z Z (by omega) (by omega)) (K6 Z Z (by kernel_rfl) Z Z (x5 Z Z (by first | exact hTi | exact hTi2)) ?_)))))));exact C08
    refine L8 [(4,.s (.one (.ref 710 0))),(5,.s (.one (.mut 20))),(6,C2 i),(16,D3 (List Str) 1 strsC files),(17,C2 files.length),(18,C2 i),(23,D3 Str 1 L0 f),(24,C2 f.length),(25,C2 j)] [(20,.tarr files.length 1 ((N3 files i).set i (.buf 713 Int 1 G9 (ids++[I5 names s 0])))),(710,.box [.mut 711,.buf 712 Str 1 L0 (names)]),(711,.map Str B25 (A16 (names) 0)),(712,.spare (names).length 1 9),(713,.spare (ids++[I5 names s 0]).length 1 3)] (by rw [K62 i,J03];exact K19 ⟨le1 rfl,le1 rfl,le1 rfl,le1 rfl,le1 rfl,le1 rfl,le1 rfl,le1 rfl,le1 rfl,trivial⟩ ⟨rfl,rfl,rfl,rfl,rfl,trivial⟩) ?_
    refine A4 (A3 (C6 Z Z (by omega)) Z (A3 (A5 Z Z) Z (A7 ?_)))
    refine k1 ?_
    exact ⟨j+1,hlt2,by omega,by rw [hstep,hnext,hpl];exact K19 ⟨le1 rfl,le1 rfl,le1 rfl,le1 rfl,le1 rfl,le1 rfl,le1 rfl,le1 rfl,le1 rfl,trivial⟩ ⟨rfl,rfl,rfl,rfl,rfl,trivial⟩⟩
   ·refine J9 ?_
    have hns:K7 names s=names++[s]:=by unfold K7;rw [if_neg hmem]
    rw [hns] at hstep hrest
    have hkv:A16 (names++[s]) 0=A16 names 0++[(s,.v (.int .i64 (names.length:Int)))]:=by rw [F88];simp only [Int.zero_add]
    have hpl:I5 (I6 files) s 0=names.length:=by
     rw [hrest,B64 s rest (names++[s]) 0 (by simp),D80 s names 0 hmem];omega
    refine L8 ((9,J0 s)::[(4,.s (.one (.ref 710 0))),(5,.s (.one (.mut 20))),(6,C2 i),(16,D3 (List Str) 1 strsC files),(17,C2 files.length),(18,C2 i),(23,D3 Str 1 L0 f),(24,C2 f.length),(25,C2 j)]) [(20,.tarr files.length 1 ((N3 files i).set i (.buf 713 Int 1 G9 (ids)))),(710,.box [.mut 711,.buf 712 Str 1 L0 (names)]),(711,.map Str B25 (A16 (names) 0)),(712,.spare (names).length 1 9),(713,.spare (ids).length 1 3)] (K19 ⟨le1 rfl,le1 rfl,le1 rfl,le1 rfl,le1 rfl,le1 rfl,le1 rfl,le1 rfl,le1 rfl,le1 rfl,trivial⟩ ⟨rfl,rfl,rfl,rfl,rfl,trivial⟩) ?_
    refine O3 [12,10,8] [[],[8],[10,8],[12,10,8]] [(8,([712],[])),(10,([713],[34])),(12,([],[]))] [(0,[]),(1,[]),(2,[]),(3,[]),(4,[]),(5,[]),(6,[]),(7,[]),(8,[]),(9,[8]),(10,[8]),(11,[10,8]),(12,[10,8])] [(0,[8]),(0,[10,8]),(1,[8]),(1,[10,8]),(2,[8]),(3,[8]),(4,[8]),(5,[8])] (by kernel_rfl) (by kernel_rfl) (D4 Z Z (by kernel_rfl) Z Z (A5 Z Z) (D4 Z Z (by kernel_rfl) Z Z (A5 Z Z) (D4 Z Z (by kernel_rfl) Z Z (A5 Z Z) (D4 Z Z (by kernel_rfl) Z Z (A5 Z Z) (D4 Z Z (by kernel_rfl) Z Z (Q5 Z Z Z (by omega) (by omega)) (D4 Z Z (by kernel_rfl) Z Z (x5 Z Z (by first | exact hTi | exact hTi2)) ?_))))));refine D4 Z Z (by kernel_rfl) Z Z (A5 Z Z) (D4 Z Z (by kernel_rfl) Z Z (A5 Z Z) (W0 Z Z (by kernel_rfl) Z Z (r_met (fun gf=>tid_new names s hmem (by omega) Z Z Z) Z Z) Z (D4 Z Z (by kernel_rfl) Z Z (E2 (c:=G9) (ys:=[(names.length:Int)]) (E9 Z Z Z Z I4) Z Z Z) (W0 Z Z (by kernel_rfl) Z Z (A87 (fun frc hU=>L1 (T5 hU Z) Z (T5 hU Z) (.pure _ _ _ _) (by (simp only [K58,K61];omega)) Z)) Z (D4 Z Z (by kernel_rfl) Z Z (Q5 Z Z Z (by omega) (by omega)) (W0 Z Z (by kernel_rfl) Z Z (C77 (fun frc hU=>B33 TySz.out (T5 hU Z) Z (by (simp;omega)) (T5 hU Z) Z)) Z ?_))))));refine C76 (by kernel_rfl) rfl ?_ ?_
    ·refine K6 Z Z (by kernel_rfl) Z Z (A5 Z Z) (K6 Z Z (by kernel_rfl) Z Z (A5 Z Z) (K6 Z Z (by kernel_rfl) Z Z (A5 Z Z) (K6 Z Z (by kernel_rfl) Z Z (A5 Z Z) (K6 Z Z (by kernel_rfl) Z Z (A5 Z Z) (K6 Z Z (by kernel_rfl) Z Z (A5 Z Z) (K6 Z Z (by kernel_rfl) Z Z (Q5 Z Z Z (by omega) (by omega)) (K6 Z Z (by kernel_rfl) Z Z (x5 Z Z (by first | exact hTi | exact hTi2)) ?_)))))));exact C08
    refine L8 [(4,.s (.one (.ref 710 0))),(5,.s (.one (.mut 20))),(6,C2 i),(16,D3 (List Str) 1 strsC files),(17,C2 files.length),(18,C2 i),(23,D3 Str 1 L0 f),(24,C2 f.length),(25,C2 j)] [(20,.tarr files.length 1 ((N3 files i).set i (.buf 713 Int 1 G9 (ids++[(names.length:Int)])))),(710,.box [.mut 711,.buf 712 Str 1 L0 (names++[s])]),(711,.map Str B25 (A16 (names++[s]) 0)),(712,.spare (names++[s]).length 1 9),(713,.spare (ids++[(names.length:Int)]).length 1 3)] (by rw [K62 i,H97,hkv];exact K19 ⟨le1 rfl,le1 rfl,le1 rfl,le1 rfl,le1 rfl,le1 rfl,le1 rfl,le1 rfl,le1 rfl,trivial⟩ ⟨rfl,rfl,rfl,rfl,rfl,trivial⟩) ?_
    refine A4 (A3 (C6 Z Z (by omega)) Z (A3 (A5 Z Z) Z (A7 ?_)))
    refine k1 ?_
    exact ⟨j+1,hlt2,by omega,by rw [hstep,hnext,hpl];exact K19 ⟨le1 rfl,le1 rfl,le1 rfl,le1 rfl,le1 rfl,le1 rfl,le1 rfl,le1 rfl,le1 rfl,trivial⟩ ⟨rfl,rfl,rfl,rfl,rfl,trivial⟩⟩
  ·have hj2:j=f.length:=by have:=A1 ht;omega
   subst hj2
   rw [K87]
   refine k6 (k7 (k7 (k8 Z (k4 (k1 ?_)))))
   refine E6 (Sees.forget 713) ?_
   have hfr:((N3 files i).set i (.buf 713 Int 1 G9 (O7 (I6 files) f))).map (TC.forget 713)=N3 files (i+1):=by rw [hf];exact G63 files i 713 hlt
   have hnr:M4 files (i+1) 0=M4 files i f.length:=by rw [hf];exact H48 files i
   refine L8 [(4,.s (.one (.ref 710 0))),(5,.s (.one (.mut 20))),(16,D3 (List Str) 1 strsC files),(17,C2 files.length),(18,C2 i)] [(710,.box [.mut 711,.buf 712 Str 1 L0 (M4 files (i+1) 0)]),(711,.map Str B25 (A16 (M4 files (i+1) 0) 0)),(712,.spare (M4 files (i+1) 0).length 1 9),(20,.tarr files.length 1 (N3 files (i+1)))] (by rw [hnr,←hfr];exact K19 ⟨le1 rfl,le1 rfl,le1 rfl,le1 rfl,le1 rfl,trivial⟩ ⟨rfl,rfl,rfl,rfl,trivial⟩) ?_
   refine A4 (A3 (C6 Z Z (by omega)) Z (A3 (A5 Z Z) Z (A7 ?_)))
   refine k1 ?_
   exact ⟨i+1,hlt,by omega,K19 ⟨le1 rfl,le1 rfl,le1 rfl,le1 rfl,le1 rfl,trivial⟩ ⟨rfl,rfl,rfl,rfl,trivial⟩⟩
 ·have hi2:i=files.length:=by have:=A1 ht;omega
  rw [hi2,H49]
  refine E6 (K53 20 (c:=intsC) (files.map (O7 (I6 files))) Z (by simp) (I29 files)) ?_
  refine E6 (Sees.freeze (k:=20) Z) ?_
  refine E6 (Sees.forget 712) ?_
  refine k6 (k2 ?_)
  refine D7 (by kernel_rfl) (by kernel_rfl) (B1 (A5 Z Z) Z Z (B1 (A5 Z Z) Z Z (B1 (B2 Z) Z Z (B1 (A8 Z) Z Z (B1 (A9 Z Z Z) Z Z (B1 (A6 Z Z) Z Z (B1 (A6 Z Z) Z Z (M2 ?_))))))))
  refine k1 (k10 ?_)
  exact B8 (Z3 rfl rfl rfl rfl rfl) rfl
theorem G32 (files:List (List Str)) (hn:files.length≤1048576) (hl:files.flatten.length≤536870911):FnOk Tryz.prog 108 [pStrss files] (fun rs=>rs=[pIntss (files.map (O7 (I6 files)))]):=by
 refine FnOk.intro Tryz.func108 (by decide) Z Z Z Z ?_
 refine k2 ?_
 refine A4 (A3 (A6 Z Z) Z (A7 ?_))
 refine k1 (k2 ?_)
 refine A4 (A3 (A5 Z Z) Z (B9 (F62 files hn hl) Z Z Z ?_));rintro _ rfl;refine A3 (A5 Z Z) Z (A3 (B3 Z Z) Z (A3 (B3 Z Z) Z (A3 (A6 Z Z) Z (A3 (A6 Z Z) Z (A7 ?_)))))
 refine k1 (k2 ?_)
 refine A4 (A3 (A5 Z Z) Z (A3 (A6 Z Z) Z (A7 ?_)))
 refine k1 (k10 ?_)
 exact B8 (J6 rfl rfl rfl) rfl
theorem B21:∀(ls:List (List Int)) (acc:List Merged) (p B:Nat),(∀x∈ls,x.length≤B)→acc.length+ls.length*B≤4096→(H9 acc p ls).2=0
 | [],acc,p,B,_,_=>rfl
 | x::r,acc,p,B,h,hb=>by
  have hx:=h x (by simp)
  rw [K58,K80,Nat.one_mul] at hb
  have hj:=A45 acc x p
  unfold H9
  rw [if_neg (by omega)]
  exact B21 r _ _ B (fun y hy=>h y (by simp [hy])) (by omega)
theorem F63 (p:Nat) (h:p≤32):IntKind.u32.wrap (1*2 ^ (min (p:Int).toNat IntKind.u32.bits))=J1 p:=by
 unfold J1;rw [I22 (n:=(p:Int)) (by omega)]
set_option maxHeartbeats 1000000
theorem G33 (ls:List (List Int)) (B:Nat) (hpos:0 < ls.length) (hn:ls.length≤32) (hB:∀x∈ls,x.length≤B) (hb:ls.length*B≤4096):FnOk Tryz.prog 176 [pIntss ls] (fun rs=>rs=[pMerged (H4 ls).1,F0 0]):=by
 obtain ⟨W,hW⟩:∃W,W=(H4 ls).1:=⟨_,rfl⟩
 have hW2:W=(H9 [] 0 ls).1:=by rw [hW];unfold H4;rw [if_neg (by omega)]
 rw [←hW]
 have h0:∀x,ls[(0:Int).toNat]?=some x→x.length≤4096:=fun x hx=>by
  have h1:=hB x (K75 hx)
  have h2:0 < ls.length:=List.length_pos_of_mem (K75 hx)
  have h3:1*B≤ls.length*B:=K71 _ h2
  omega
 have hx0:0 < ls.length→∃x,ls[(0:Int).toNat]?=some x∧x.length≤4096:=fun h=>⟨ls[0],K57 h,h0 _ (K57 h)⟩
 refine FnOk.intro Tryz.func176 (by decide) Z Z Z Z ?_
 refine k2 ?_
 refine A4 (A3 (A6 Z Z) Z (A3 (A6 Z Z) Z (A7 ?_)))
 refine k1 (k2 (k2 ?_))
 obtain ⟨x0,hv0,hxl⟩:=hx0 hpos
 refine A4 (A3 (A5 Z Z) Z (A3 (F4 Z (.pure _ _ _ _)) Z (A3 (Q1 Z Z) Z (A3 (A5 Z Z) Z (B0 Z Z Z Z (fun hg=>by rw [hg];exact A5 Z Z) ?_)))));refine B0 Z Z Z Z (fun hg=>by rw [hg];exact F4 Z (.pure _ _ _ _)) ?_;refine B0 Z Z Z Z (fun hg=>by rw [hg];exact Q1 Z Z) ?_;refine B0 Z Z Z Z (fun hg=>by rw [hg];exact A5 Z Z) ?_;refine J4 Z Z Z (.gd (.val _)) Z (fun hg=>by obtain ⟨hg1,hg2⟩:=N4 hg;(try rw [hg1]);(try rw [hg2]);exact A5 Z Z) ?_;refine J4 Z Z Z (.gd (.val _)) Z (fun hg=>by have hq:=hg;(try simp at hq);obtain ⟨hg1,hg2⟩:=N4 hg;(try rw [hg1]);(try rw [hg2]);exact C0 Z (.pure _ _ _ _) Z (by omega) hv0) ?_;refine J4 Z Z Z (.gd (.val _)) Z (fun hg=>by obtain ⟨hg1,hg2⟩:=N4 hg;(try rw [hg1]);(try rw [hg2]);exact C9 Z Z) ?_;refine J4 Z Z Z (.gd (.val _)) Z (fun hg=>by obtain ⟨hg1,hg2⟩:=N4 hg;(try rw [hg1]);(try rw [hg2]);exact F4 Z (.pure _ _ _ _)) ?_;refine J4 Z Z Z (.gd (.val _)) Z (fun hg=>by obtain ⟨hg1,hg2⟩:=N4 hg;(try rw [hg1]);(try rw [hg2]);exact Q1 Z Z) ?_;refine B0 Z Z Z Z (fun hg=>by rw [hg];exact B5 Z (fun h=>by first | rfl | (rw [h];rfl)) (fun h=>by first | rfl | (rw [h];rfl))) ?_;refine A3 (B5 Z (fun h=>by first | rfl | (rw [h];rfl)) (fun h=>by first | rfl | (rw [h];rfl))) Z ?_;refine A7 ?_
 refine k1 ?_
 refine B4 rfl (fun ht=>?_) (fun ht=>?_)
 ·exfalso
  have q1:¬((ls.length:Int) > 32):=by omega
  have q2:¬((x0.length:Int) > 4096):=by omega
  simp [q1,q2] at ht
 refine L8 [(0,D3 (List Int) 1 intsC ls)] [] (K19 ⟨le1 rfl,trivial⟩ trivial) ?_
 refine k5 (k1 (k2 ?_))
 refine A4 (A3 (V3 _ 2 mergedC) Z (A7 ?_))
 refine k1 (k2 (k2 ?_))
 refine A4 (A3 (A5 Z Z) Z (A3 (F4 Z (.pure _ _ _ _)) Z (A3 (A5 Z Z) Z (A7 ?_))))
 refine k1 (k3 ?_)
 refine E4 (X:=Nat × List Merged) (fun x=>([(4,D3 Merged 2 mergedC x.2),(23,D3 (List Int) 1 intsC ls),(24,C2 ls.length),(25,C2 x.1)],[])) (fun x=>x.1≤ls.length∧x.2.length≤x.1*B∧W=(H9 x.2 x.1 (ls.drop x.1)).1) (fun x=>ls.length - x.1) (0,[]) ⟨Nat.zero_le _,(by simp),hW2⟩ (K19 ⟨le1 rfl,le1 rfl,le1 rfl,le1 rfl,trivial⟩ trivial) ?_
 rintro ⟨p,acc⟩ ⟨hp,hal,hw⟩
 dsimp only at hp hal hw ⊢
 have hpB:p*B≤ls.length*B:=K71 _ hp
 refine k2 ?_
 refine A4 (A3 (E5 Z Z) Z (A7 ?_))
 refine k1 (k2 ?_)
 refine B4 rfl (fun ht=>?_) (fun ht=>?_)
 rotate_left
 ·have hpl:p=ls.length:=by have:=A1 ht;omega
  rw [hpl,K66 (Nat.le_refl _)] at hw
  have hw:W=acc:=hw
  refine k6 (k2 ?_)
  refine A4 (A3 (A5 Z Z) Z (A3 (A6 Z Z) Z (A3 (A6 Z Z) Z (A7 ?_))))
  refine k1 (k10 ?_)
  exact B8 (Z3 rfl rfl rfl rfl rfl) (by rw [hw])
 have hlt:p < ls.length:=by have:=A0 ht;omega
 have hv:ls[p]?=some ls[p]:=by simp [hlt]
 have hx:=hB _ (K76 hlt)
 rw [K64 hlt,H9] at hw
 obtain ⟨x,hxd⟩:∃x,x=ls[p]:=⟨_,rfl⟩
 rw [←hxd] at hv hx hw
 have h1B:1*B≤ls.length*B:=K71 _ hpos
 rw [if_neg (by omega)] at hw
 have hjs:=A45 acc x p
 have hM:=J02 acc x (J1 p) (by omega) (by omega)
 have hres:D27 acc x (J1 p)=Y5 acc x p:=rfl
 rw [hres] at hM
 refine k5 (k1 (k2 (k3 (k2 ?_))))
 refine A4 (A3 (A5 Z Z) Z (A3 (C0 Z (.pure _ _ _ _) Z (by omega) hv) Z (A3 (C9 Z Z) Z (A3 (A6 Z Z) Z (A3 (A6 Z Z) Z (A7 ?_))))))
 refine k1 (k2 ?_)
 refine A4 (A3 (A6 Z Z) Z (A7 ?_))
 refine k1 (k2 ?_)
 refine A4 (A3 (A5 Z Z) Z (A3 (A5 Z Z) Z (A3 (A5 Z Z) Z (A3 (I55 Z Z (by (show (0:Int)≤(p:Int);omega))) Z ?_))));rw [F63 p (by omega)];refine B9 hM Z Z Z ?_;rintro _ rfl;refine A3 (A5 Z Z) Z (A3 (B3 Z Z) Z (A3 (B3 Z Z) Z (A3 (A6 Z Z) Z (A3 (A6 Z Z) Z (A7 ?_)))))
 refine k1 (k2 ?_)
 refine A4 (A3 (A5 Z Z) Z (A3 (N6 Z Z) Z (A7 ?_)))
 refine k1 ?_
 refine B4 rfl (fun ht=>?_) (fun ht=>?_)
 ·cases ht
 refine k5 (k4 (k1 ?_))
 refine A4 (A3 (C6 Z Z (by omega)) Z (A3 (A5 Z Z) Z (A7 ?_)))
 refine k1 ?_
 exact ⟨(p+1,Y5 acc x p),⟨by dsimp only;omega,by dsimp only;rw [K80];omega,hw⟩,by dsimp only;omega,K19 ⟨le1 rfl,le1 rfl,le1 rfl,le1 rfl,trivial⟩ trivial⟩
theorem E44 (files:List (List Str)) (hn:files.length≤1048576) (hl:files.flatten.length≤536870911):FnOk Tryz.prog 109 [pStrss files] (fun rs=>rs=[Z6 (I6 files)]):=by
 refine FnOk.intro Tryz.func109 (by decide) Z Z Z Z ?_
 refine k2 ?_
 refine A4 (A3 (A6 Z Z) Z (A7 ?_))
 refine k1 (k2 ?_)
 refine A4 (A3 (A5 Z Z) Z (B9 (F62 files hn hl) Z Z Z ?_));rintro _ rfl;refine A3 (A5 Z Z) Z (A3 (B3 Z Z) Z (A3 (B3 Z Z) Z (A3 (A6 Z Z) Z (A3 (A6 Z Z) Z (A7 ?_)))))
 refine k1 (k2 ?_)
 refine A4 (A3 (A5 Z Z) Z (A3 (A6 Z Z) Z (A7 ?_)))
 refine k1 (k10 ?_)
 exact B8 (J6 rfl rfl rfl) rfl
abbrev R6 (m:Nat):List TC:=O2 intsC m 0 (fun _=>([]:List (List Int)))
abbrev c6 (names:List Str) (lines:List Int) (n:Nat):Ob:=.box [.p (.list Str 1 L0 names),.p (.list Int 1 G9 lines),.mut 731,.mut 732,.p (.v (.int .i64 n)),.p (.v (.slice none 0 0))]
abbrev y6:Ob:=.box [.p (.v (.int .i64 0)),.p (.v (.slice none 0 0))]
abbrev B46 (names:List Str) (lines ms:List Int) (g:Nat→List (List Int)) (n m:Nat):Obs :=
 (4,y6)::(730,c6 names lines n)::(731,.arr Int 1 C66 ms)::(732,.growT 138 m 1 (R6 m))::L6 intsC g (List.range m)
theorem B47 {m k:Nat} (hk:k < 1000):(R6 m).all (TC.free k)=true:=by
 rw [List.all_eq_true]
 intro t ht
 obtain ⟨r,_,rfl⟩:=List.mem_map.1 ht
 rw [if_neg (by omega)]
 simp [TC.free,J2 (show r+1000≠k by omega)]
theorem H98 {names:List Str} {lines ms:List Int} {g:Nat→List (List Int)} {n m:Nat}:I1 708 (B46 names lines ms g n m)=true:=by
 have h1:=C30 (k:=708) (by omega) (List.range m) (fun r _=>by omega) (c:=intsC) (g:=g)
 have h2:=B47 (m:=m) (k:=708) (by omega)
 simp only [I1,Ob.free,h1,h2]
 rfl
theorem obs_top {i:Nat} {x y:Ob} {rest:Obs}:∀k o,C4 ((i,x)::rest) k=some o→C4 ((i,x)::(i,y)::rest) k=some o:=by
 intro k o h
 by_cases hk:i=k
 ·subst hk;rw [C8] at h ⊢;exact h
 ·rw [B6 hk] at h;rw [B6 hk,B6 hk];exact h
abbrev chBox (a b c d:Int):Ob:=.box [.p (.v (.int .i64 a)),.p (.v (.int .i64 b)),.p (.v (.int .i64 c)),.p (.v (.int .i64 d))]
set_option maxHeartbeats 1000000
theorem J77 {gf:Fr} (names:List Str) (lines file ms:List Int) (g:Nat→List (List Int)) (n p:Nat) (hl:lines.length≤4096) (hf:file.length≤4096) (hms:ms.length=lines.length) (hp:p < 32) (hpn:p < n) (hg:∀k,(g k).length=n) :
  AL.Met Tryz.prog 110 [.one (.ref 730 0),.one (.p (.v (.int .i64 p))),.one (.p (.list Int 1 G9 file))] gf (B46 names lines ms g n (lines.length+1)) [708]
   (fun rs ob'=>rs=[.one (.p (.v (.int .i64 0)))]∧ob'=B46 names lines ((N5 file lines).foldl (M8 p) ms) ((N5 file lines).foldl (O9 p file) g) n (lines.length+1)):=by
 have hS:=E43 file lines hf hl
 have hwb:=G48 file lines
 have hml:=C17 (H2 0 0 file lines) 0 0 file.length lines.length
 have hwl:=A60 0 0 file lines
 obtain ⟨cs,hcs⟩:∃cs,cs=N5 file lines:=⟨_,rfl⟩
 have hcsl:cs.length≤4097:=by rw [hcs];unfold N5 A96;omega
 rw [←hcs] at hS hwb ⊢
 refine AL.Met.introH Tryz.func110 (by decide) rfl rfl rfl (fun hH=>?_)
 refine k2 ?_
 refine A4 (A3 (A6 Z Z) Z (A7 ?_))
 refine k1 (k2 ?_)
 refine A4 (A3 (A5 Z Z) Z (A3 (A5 Z Z) Z (A3 (B2 Z) Z (A3 (A8 Z) Z (A3 (A9 Z Z Z) Z (B9 (hS) Z Z Z ?_))))));rintro _ rfl;refine A3 (A5 Z Z) Z (A3 (B3 Z Z) Z (A3 (B3 Z Z) Z (A3 (A6 Z Z) Z (A3 (A6 Z Z) Z (A7 ?_)))))
 refine k1 (k2 (k2 ?_))
 refine A4 (A3 (A5 Z Z) Z (A3 (N6 Z Z) Z (A7 ?_)))
 refine k1 ?_
 refine B4 rfl (fun ht=>?_) (fun ht=>?_)
 ·cases ht
 refine k5 (k1 (k2 (k2 ?_)))
 refine A4 (A3 (A5 Z Z) Z (A3 (F4 Z (.pure _ _ _ _)) Z (A3 (A5 Z Z) Z (A7 ?_))))
 refine k1 (k3 ?_)
 refine E6 (K37 [708] (l:=[(0,.s (.one (.ref 730 0))),(1,C2 p),(2,D3 Int 1 G9 file),(24,D3 Change 4 changeC cs),(25,C2 cs.length),(26,C2 0)]) (ob':=B46 names lines ms g n (lines.length+1)) ⟨le1 rfl,le1 rfl,le1 rfl,le1 rfl,le1 rfl,le1 rfl,trivial⟩ hH (by repeat (first | exact C5 | refine tail_cons rfl ?_)) (fun _ _ h=>h)) ?_
 refine E4 (X:=Nat) (fun i=>([(0,.s (.one (.ref 730 0))),(1,C2 p),(2,D3 Int 1 G9 file),(24,D3 Change 4 changeC cs),(25,C2 cs.length),(26,C2 i)]++D8 [708] gf,B46 names lines ((cs.take i).foldl (M8 p) ms) ((cs.take i).foldl (O9 p file) g) n (lines.length+1))) (fun i=>i≤cs.length) (fun i=>cs.length - i) 0 (Nat.zero_le _) (K24 fun _ _ h=>h) ?_
 intro i hi
 dsimp only at hi ⊢
 refine k2 ?_
 refine A4 (A3 (E5 Z Z) Z (A7 ?_))
 refine k1 (k2 ?_)
 refine B4 rfl (fun ht=>?_) (fun ht=>?_)
 rotate_left
 ·have hil:i=cs.length:=by have:=A1 ht;omega
  rw [hil,K87]
  refine k6 (k2 ?_)
  refine A4 (A3 (A6 Z Z) Z (A7 ?_))
  refine k1 (k10 ?_)
  exact H3 (U2 rfl rfl) (by repeat (first | exact C5 | refine tail_cons rfl ?_)) (fun _ _ h=>h) ⟨rfl,rfl⟩
 have hlt:i < cs.length:=by have:=A0 ht;omega
 have hv:cs[i]?=some cs[i]:=by simp [hlt]
 have hcb:=hwb _ (K76 hlt)
 have hst1:(cs.take (i+1)).foldl (M8 p) ms=M8 p ((cs.take i).foldl (M8 p) ms) cs[i]:=by rw [K67 hlt,L00];rfl
 have hst2:(cs.take (i+1)).foldl (O9 p file) g=O9 p file ((cs.take i).foldl (O9 p file) g) cs[i]:=by rw [K67 hlt,L00];rfl
 have hmi:((cs.take i).foldl (M8 p) ms).length=lines.length:=by
  have key:∀(q:List Change) (ms:List Int),(q.foldl (M8 p) ms).length=ms.length:=by
   intro q
   induction q with
   | nil=>intro ms;rfl
   | cons c r ih=>intro ms;rw [K89,ih,x7]
  rw [key,hms]
 have hgi:∀k,((cs.take i).foldl (O9 p file) g k).length=n:=by
  have key:∀(q:List Change) (g:Nat→List (List Int)),(∀k,(g k).length=n)→∀k,(q.foldl (O9 p file) g k).length=n:=by
   intro q
   induction q with
   | nil=>intro g h;exact h
   | cons c r ih =>
    intro g h
    refine ih _ (fun k=>?_)
    unfold O9
    split
    ·rw [L10];exact h k
    ·exact h k
  exact key _ _ hg
 obtain ⟨m1,hm1⟩:∃m1,m1=(cs.take i).foldl (M8 p) ms:=⟨_,rfl⟩
 obtain ⟨g1,hg1⟩:∃g1,g1=(cs.take i).foldl (O9 p file) g:=⟨_,rfl⟩
 obtain ⟨c,hc⟩:∃c,c=cs[i]:=⟨_,rfl⟩
 rw [←hm1] at hst1 hmi ⊢
 rw [←hg1] at hst2 hgi ⊢
 rw [←hc] at hv hcb hst1 hst2
 obtain ⟨co,col,cn,cnl⟩:=c
 dsimp only at hcb
 obtain ⟨A,rfl⟩:∃A:Nat,co=A:=⟨co.toNat,by omega⟩
 obtain ⟨B,rfl⟩:∃B:Nat,col=B:=⟨col.toNat,by omega⟩
 obtain ⟨C,rfl⟩:∃C:Nat,cn=C:=⟨cn.toNat,by omega⟩
 obtain ⟨D,rfl⟩:∃D:Nat,cnl=D:=⟨cnl.toNat,by omega⟩
 have hfree:∀ms',I1 708 (B46 names lines ms' g1 n (lines.length+1))=true:=fun ms'=>H98
 obtain ⟨hf1,hf2,_⟩:=R3 (hfree m1)
 refine k5 (k1 (k2 (k3 (k2 ?_))))
 refine A4 (A3 (C0 Z (.pure _ _ _ _) Z (by omega) hv) Z (A3 (H1 Z Z) Z (C7 (G14 708 hf2 (by decide)) Z (E1 (B7 TySz.out Z Z Z Z Z Z) (A7 ?_)))))
 rw [hf1]
 refine L8 ([(0,.s (.one (.ref 730 0))),(1,C2 p),(2,D3 Int 1 G9 file),(10,.s (.one (.ref 708 0))),(24,D3 Change 4 changeC cs),(25,C2 cs.length),(26,C2 i)]++D8 [708] gf) ((708,chBox A B C D)::B46 names lines m1 g1 n (lines.length+1)) (K20 ⟨le1 rfl,le1 rfl,le1 rfl,le1 rfl,le1 rfl,le1 rfl,le1 rfl,trivial⟩ (M5 hH) (by repeat (first | exact C5 | refine tail_cons rfl ?_ | refine A88 _ rfl ?_)) obs_top) ?_
 refine k2 (k2 ?_)
 refine A4 (A3 (A8 Z) Z (A3 (A9 Z Z Z) Z (A3 (A6 Z Z) Z (A7 ?_))))
 refine k1 (k3 ?_)
 refine E4 (X:=Nat) (fun t=>([(0,.s (.one (.ref 730 0))),(1,C2 p),(2,D3 Int 1 G9 file),(10,.s (.one (.ref 708 0))),(11,C2 ((C+t:Nat):Int)),(24,D3 Change 4 changeC cs),(25,C2 cs.length),(26,C2 i)]++D8 [708] gf,(708,chBox A B C D)::B46 names lines (M8 p m1 ⟨A,B,C,t⟩) g1 n (lines.length+1))) (fun t=>t≤D) (fun t=>D - t) 0 (Nat.zero_le _) ?_ ?_
 ·dsimp only
  rw [show ((0:Nat):Int)=0 from rfl,H46]
  exact K20 ⟨le1 rfl,le1 rfl,le1 rfl,le1 rfl,le1 rfl,le1 rfl,le1 rfl,le1 rfl,trivial⟩ (M5 hH) (by repeat (first | exact C5 | refine tail_cons rfl ?_)) (fun _ _ h=>h)
 intro t ht1
 dsimp only at ht1 ⊢
 have hsl:=x7 p m1 ⟨A,B,C,t⟩
 refine k2 (k2 ?_)
 refine A4 (A3 (A5 Z Z) Z (A3 (A8 Z) Z (A3 (A9 Z Z Z) Z (A3 (A8 Z) Z (A3 (A9 Z Z Z) Z (A3 (C6 Z Z (by omega)) Z (A3 (E5 Z Z) Z (A7 ?_))))))))
 refine k1 ?_
 refine B4 rfl (fun ht=>?_) (fun ht=>?_)
 ·have hltD:t < D:=by have:=A0 ht;omega
  obtain ⟨q1,q2⟩:=H47 p m1 A B C t (by omega)
  have hv2:(M8 p m1 ⟨A,B,C,t⟩)[((C+t:Nat):Int).toNat]?=some (m1.getD (C+t) 0):=by rw [K62];exact q1
  refine k5 (k1 (k2 (k3 ?_)))
  refine D7 (by kernel_rfl) (by kernel_rfl) (B1 (A5 Z Z) Z Z (B1 (B2 Z) Z Z (B1 (A8 Z) Z Z (B1 (A9 Z Z Z) Z Z (B1 (A5 Z Z) Z Z (B1 (F9 Z Z Z (by omega) (by (rw [hsl];omega))) Z Z ?_))))));refine B1 (U7 Z Z hv2 Z) Z Z (B1 (A5 Z Z) Z Z (B1 (I55 Z Z (by (show (0:Int)≤(p:Int);omega))) Z Z ?_));refine B1 (l8 Z Z Z (fun _=>rfl)) Z Z (B1 (F9 Z Z Z (by omega) (by (rw [hsl];omega))) Z Z ?_);refine F46 (I0 TySz.out Z Z (by (rw [hsl];omega)) Z Z) Z ?_;refine M2 ?_
  rw [F63 p (by omega)]
  refine k4 (k1 ?_)
  refine A4 (A3 (A5 Z Z) Z (A3 (C6 Z Z (by omega)) Z (A3 (A6 Z Z) Z (A7 ?_))))
  refine k1 ?_
  refine ⟨t+1,by omega,by omega,?_⟩
  rw [←q2]
  refine K20 ⟨le1 rfl,le1 rfl,le1 rfl,le1 rfl,leE rfl (by rw [show ((C+(t+1):Nat):Int)=((C+t:Nat):Int)+1 by omega]),le1 rfl,le1 rfl,le1 rfl,trivial⟩ (M5 hH) (by repeat (first | exact C5 | refine tail_drop rfl ?_ | refine tail_cons rfl ?_ | refine A88 _ rfl ?_)) ?_
  exact B82 (L:=[(708,_),(4,_),(730,_),(731,_),(732,_)]) ⟨rfl,rfl,rfl,rfl,rfl,trivial⟩ (by repeat (first | exact B40 | refine B41 rfl ?_))
 have htD:t=D:=by have:=A1 ht;omega
 subst htD
 rw [←hst1]
 have hC:C < lines.length+1:=by omega
 have hrow:(R6 (lines.length+1))[C]?=some (.mut (C+1000)):=G84 hC (Nat.zero_le _)
 have hgl:(R6 (lines.length+1)).length=lines.length+1:=E19
 obtain ⟨m2,hm2⟩:∃m2,m2=(cs.take (i+1)).foldl (M8 p) ms:=⟨_,rfl⟩
 rw [←hm2]
 have hob:C4 ((708,chBox A B C t)::B46 names lines m2 g1 n (lines.length+1)) (C+1000)=some (.arr (List Int) 1 intsC (g1 C)):=by
  rw [B6 (by omega),B6 (by omega),B6 (by omega),B6 (by omega),B6 (by omega)]
  exact B79 (List.mem_range.2 hC)
 have hgC:=hgi C
 have eAB:((A:Int)+B).toNat - (A:Int).toNat=B:=by omega
 have hnew:(g1 C).set p ((file.drop A).take B)=(cs.take (i+1)).foldl (O9 p file) g C:=by
  rw [hst2,O9,if_pos (by simp)]
  dsimp only
  rw [eAB,K62]
 have hsame:∀q,q≠C→(cs.take (i+1)).foldl (O9 p file) g q=g1 q:=by
  intro q hq
  rw [hst2,O9,if_neg (by simpa using hq)]
 refine k6 (k7 (k7 (k8 Z (k1 ?_))))
 refine D7 (by kernel_rfl) (by kernel_rfl) (B1 (A5 Z Z) Z Z (B1 (B2 Z) Z Z (B1 (A8 Z) Z Z (B1 (A9 Z Z Z) Z Z (B1 (A8 Z) Z Z (B1 (A9 Z Z Z) Z Z (B1 (E40 Z Z Z (by omega) (by (first | omega | (rw [K62];omega)))) Z Z (B1 (I97 Z Z (by simpa using hrow)) Z Z (B1 (A5 Z Z) Z Z (B1 (A5 Z Z) Z Z (B1 (A8 Z) Z Z (B1 (A9 Z Z Z) Z Z (B1 (A8 Z) Z Z (B1 (A9 Z Z Z) Z Z (B1 (A8 Z) Z Z (B1 (A9 Z Z Z) Z Z (B1 (C6 Z Z (by omega)) Z Z (B1 (t7 Z (.pure _ _ _ _) Z Z (by omega) (by omega) (by omega)) Z Z (B1 (F9 Z hob Z (by omega) (by (first | omega | (rw [hgC];omega)))) Z Z (F46 (I0 TySz.out Z hob (by (first | omega | (rw [K62,hgC];omega))) Z Z) Z (M2 ?_)))))))))))))))))))))
 rw [eAB,K62,K62,hnew]
 refine k4 (k1 ?_)
 refine A4 (A3 (C6 Z Z (by omega)) Z (A3 (A5 Z Z) Z (A7 ?_)))
 refine k1 ?_
 refine ⟨i+1,by omega,by omega,?_⟩
 refine K20 ⟨le1 rfl,le1 rfl,le1 rfl,le1 rfl,le1 rfl,le1 rfl,trivial⟩ (M5 hH) (by repeat (first | exact C5 | refine tail_drop rfl ?_ | refine tail_cons rfl ?_ | refine A88 _ rfl ?_)) ?_
 rw [←hm2]
 obtain ⟨g2,hg2⟩:∃g2,g2=(cs.take (i+1)).foldl (O9 p file) g:=⟨_,rfl⟩
 rw [←hg2] at hsame ⊢
 intro k o hk
 have h1:=J66 (c:=intsC) (g:=g1) (g':=g2) (pre:=[(4,y6),(730,c6 names lines n),(731,.arr Int 1 C66 m2),(732,.growT 138 (lines.length+1) 1 (R6 (lines.length+1)))]) rfl (List.mem_range.2 hC) hsame k o hk
 by_cases hkC:C+1000=k
 ·subst hkC;rw [C8] at h1 ⊢;exact h1
 ·rw [B6 hkC] at h1 ⊢
  by_cases h7:708=k
  ·subst h7
   have:C4 ([(4,y6),(730,c6 names lines n),(731,.arr Int 1 C66 m2),(732,.growT 138 (lines.length+1) 1 (R6 (lines.length+1)))]++L6 intsC g1 (List.range (lines.length+1))) 708=none:=by
    rw [O1 rfl];exact J65 (by omega)
   rw [this] at h1;cases h1
  ·rw [B6 h7];exact h1
abbrev A29 (names:List Str) (lines ms:List Int) (gs:List (List (List Int))) (n:Nat) (rows:List Row):Obs :=
 [(4,y6),(730,.box [.p (.list Str 1 L0 names),.p (.list Int 1 G9 lines),.p (.list Int 1 C66 ms),.p (.list (List (List Int)) 1 intssC gs),.p (.v (.int .i64 n)),.buf 733 Row 3 rowC rows]),(733,.spare rows.length 3 69)]
set_option maxHeartbeats 1000000
theorem H99 {gf:Fr} (names file:List Str) (lines ms:List Int) (g:Nat→List (List Int)) (n B:Nat) (hl:file.length≤4096) (hll:lines.length=file.length) (hms:ms.length=file.length) (hn:1≤n∧n≤32) (hB:n*B≤4096)
  (hg:∀k,(g k).length=n∧∀x∈g k,x.length≤B∧∀v∈x,0≤v∧v < (names.length:Int)) (hnm:∀k,k < file.length→0≤lines.getD k 0∧names[(lines.getD k 0).toNat]?=some (file.getD k [])) :
  AL.Met Tryz.prog 111 [.one (.ref 730 0)] gf (A29 names lines ms ((List.range (file.length+1)).map g) n []) [708,733]
   (fun rs ob'=>rs=[.one (.p (.v (.int .i64 0)))]∧ob'=A29 names lines ms ((List.range (file.length+1)).map g) n (X2 names file (ms,g) (file.length+1))):=by
 obtain ⟨gs,hgs⟩:∃gs,gs=(List.range (file.length+1)).map g:=⟨_,rfl⟩
 have hgl:gs.length=file.length+1:=by rw [hgs];simp
 obtain ⟨R,hR⟩:∃R:Nat→List Row,R=fun k=>X2 names file (ms,g) k:=⟨_,rfl⟩
 obtain ⟨F,hF⟩:∃F:Merged→Row,F=fun m=>⟨true,m.Parents,names.getD m.Line.toNat []⟩:=⟨_,rfl⟩
 have hcs:∀k,(H4 (g k)).1.length≤4096∧∀m∈(H4 (g k)).1,(0≤m.Parents∧m.Parents < 4294967296)∧0≤m.Line∧m.Line < (names.length:Int):=fun k=>by
  have h3:=A61 (fun v=>0≤v∧v < (names.length:Int)) B (g k) (hg k).2
  rw [(hg k).1] at h3
  exact ⟨by omega,h3.2⟩
 have hR1:∀k,R (k+1)=R k++((H4 (g k)).1.map F++(if k < file.length then [⟨false,ms.getD k 0,file.getD k []⟩] else [])):=fun k=>by
  rw [hR];dsimp only;rw [D72,S3,hF]
 have hRl:∀k,(R k).length≤k*4097:=fun k=>by
  induction k with
  | zero=>rw [hR];simp [X2]
  | succ k ih=>rw [hR1];have:=(hcs k).1;simp only [K56,K84];split<;>simp<;>omega
 have hRn:X2 names file (ms,g) (file.length+1)=R (file.length+1):=by rw [hR]
 rw [hRn,←hgs]
 have hR0:R 0=[]:=by rw [hR];rfl
 refine AL.Met.introH Tryz.func111 (by decide) rfl rfl rfl (fun hH=>?_)
 refine k2 ?_
 refine A4 (A3 (A6 Z Z) Z (A7 ?_))
 refine k1 (k2 (k2 ?_))
 refine A4 (A3 (A5 Z Z) Z (A3 (B2 Z) Z (A3 (A8 Z) Z (A3 (A9 Z Z Z) Z (A3 (F4 Z (.pure _ _ _ _)) Z (A3 (A5 Z Z) Z (A7 ?_)))))))
 refine k1 (k3 ?_)
 refine E6 (K37 [708,733] (l:=[(0,.s (.one (.ref 730 0))),(12,D3 (List (List Int)) 1 intssC gs),(13,C2 gs.length),(14,C2 0)]) (ob':=A29 names lines ms gs n []) ⟨le1 rfl,le1 rfl,le1 rfl,le1 rfl,trivial⟩ hH (by repeat (first | exact C5 | refine tail_cons rfl ?_)) (fun _ _ h=>h)) ?_
 refine E4 (X:=Nat) (fun k=>([(0,.s (.one (.ref 730 0))),(12,D3 (List (List Int)) 1 intssC gs),(13,C2 gs.length),(14,C2 k)]++D8 [708,733] gf,A29 names lines ms gs n (R k))) (fun k=>k≤file.length+1) (fun k=>file.length+1 - k) 0 (Nat.zero_le _) (by rw [hR0];exact K24 fun _ _ h=>h) ?_
 intro k hk
 dsimp only at hk ⊢
 have hRk:=hRl k
 refine k2 ?_
 refine A4 (A3 (E5 Z Z) Z (A7 ?_))
 refine k1 (k2 ?_)
 refine B4 rfl (fun ht=>?_) (fun ht=>?_)
 rotate_left
 ·have hkl:k=file.length+1:=by have:=A1 ht;omega
  rw [hkl]
  refine k6 (k2 ?_)
  refine A4 (A3 (A6 Z Z) Z (A7 ?_))
  refine k1 (k10 ?_)
  exact H3 (U2 rfl rfl) (by repeat (first | exact C5 | refine tail_cons rfl ?_)) (fun _ _ h=>h) ⟨rfl,rfl⟩
 have hlt:k < file.length+1:=by have:=A0 ht;omega
 have hgv:gs[k]?=some (g k):=by rw [hgs,K88,K97 hlt];rfl
 have hck:=hcs k
 have hgk:=hg k
 have hC:=G33 (g k) B (by omega) (by omega) (fun x hx=>(hgk.2 x hx).1) (by rw [hgk.1];exact hB)
 have hRs:=hR1 k
 obtain ⟨l,hld⟩:∃l,l=(H4 (g k)).1:=⟨_,rfl⟩
 rw [←hld] at hck hC hRs
 refine k5 (k1 (k2 (k3 (k2 ?_))))
 refine A4 (A3 (A5 Z Z) Z (A3 (C0 Z (.pure _ _ _ _) Z (by omega) hgv) Z (A3 (C9 Z Z) Z (A3 (A6 Z Z) Z (A3 (A6 Z Z) Z (A7 ?_))))))
 refine k1 (k2 ?_)
 refine A4 (A3 (A5 Z Z) Z (B9 (hC) Z Z Z ?_));rintro _ rfl;refine A3 (A5 Z Z) Z (A3 (B3 Z Z) Z (A3 (B3 Z Z) Z (A3 (A6 Z Z) Z (A3 (A6 Z Z) Z (A7 ?_)))))
 refine k1 (k2 (k2 ?_))
 refine A4 (A3 (A5 Z Z) Z (A3 (N6 Z Z) Z (A7 ?_)))
 refine k1 ?_
 refine B4 rfl (fun ht=>?_) (fun ht=>?_)
 ·cases ht
 refine k5 (k1 (k2 (k2 ?_)))
 refine A4 (A3 (A5 Z Z) Z (A3 (F4 Z (.pure _ _ _ _)) Z (A3 (A5 Z Z) Z (A7 ?_))))
 refine k1 (k3 ?_)
 refine E4 (X:=Nat) (fun i=>([(0,.s (.one (.ref 730 0))),(3,C2 k),(12,D3 (List (List Int)) 1 intssC gs),(13,C2 gs.length),(14,C2 k),(27,D3 Merged 2 mergedC l),(28,C2 l.length),(29,C2 i)]++D8 [708,733] gf,A29 names lines ms gs n (R k++(l.take i).map F))) (fun i=>i≤l.length) (fun i=>l.length - i) 0 (Nat.zero_le _) ?_ ?_
 ·dsimp only
  rw [List.take_zero,K96,K81]
  exact K20 ⟨le1 rfl,le1 rfl,le1 rfl,le1 rfl,le1 rfl,le1 rfl,le1 rfl,le1 rfl,trivial⟩ (M5 hH) (by repeat (first | exact C5 | refine tail_cons rfl ?_)) (fun _ _ h=>h)
 intro i hi
 dsimp only at hi ⊢
 have hil:(R k++(l.take i).map F).length≤k*4097+4096:=by simp only [K56,K84,K70];omega
 refine k2 ?_
 refine A4 (A3 (E5 Z Z) Z (A7 ?_))
 refine k1 (k2 ?_)
 refine B4 rfl (fun ht=>?_) (fun ht=>?_)
 ·have hli:i < l.length:=by have:=A0 ht;omega
  have hlv:l[i]?=some l[i]:=by simp [hli]
  have hlb:=hck.2 l[i] (K76 hli)
  have hst:(l.take (i+1)).map F=(l.take i).map F++[F l[i]]:=by rw [K67 hli];simp only [K73,K63,K96]
  obtain ⟨m,hm⟩:∃m,m=l[i]:=⟨_,rfl⟩
  rw [←hm] at hlv hlb hst
  have hnv:names[m.Line.toNat]?=some (names.getD m.Line.toNat []):=by rw [K60,K57 (by omega)];rfl
  have hFi:F m=⟨true,m.Parents,names.getD m.Line.toNat []⟩:=by rw [hF]
  obtain ⟨Q,hQ⟩:∃Q,Q=R k++(l.take i).map F:=⟨_,rfl⟩
  rw [←hQ] at hil ⊢
  refine k5 (k1 (k2 (k3 (k2 ?_))))
  refine A4 (A3 (C0 Z (.pure _ _ _ _) Z (by omega) hlv) Z (A3 (H1 Z Z) Z (C7 (G14 708 Z (by decide)) Z (E1 (B7 TySz.out Z Z Z Z Z Z) (A7 ?_)))))
  refine k1 ?_
  refine L8 ([(0,.s (.one (.ref 730 0))),(3,C2 k),(8,.s (.one (.ref 708 0))),(12,D3 (List (List Int)) 1 intssC gs),(13,C2 gs.length),(14,C2 k),(27,D3 Merged 2 mergedC l),(28,C2 l.length),(29,C2 i)]++D8 [708,733] gf) ((708,.box [.p (.v (.int .i64 m.Line)),.p (.v (.int .u32 m.Parents))])::A29 names lines ms gs n Q) (K20 ⟨le1 rfl,le1 rfl,le1 rfl,le1 rfl,le1 rfl,le1 rfl,le1 rfl,le1 rfl,le1 rfl,trivial⟩ (M5 hH) (by repeat (first | exact C5 | refine tail_cons rfl ?_ | refine A88 _ rfl ?_)) (ObIn.spec (ob':=(708,.box [.p (.v (.int .i64 m.Line)),.p (.v (.int .u32 m.Parents))])::A29 names lines ms gs n Q) ⟨rfl,rfl,rfl,rfl,trivial⟩)) ?_
  refine O3 [22,18] [[],[18],[22,18]] [(18,([733],[38])),(22,([],[]))] [(0,[]),(1,[]),(2,[]),(3,[]),(4,[]),(5,[]),(6,[]),(7,[]),(8,[]),(9,[]),(10,[]),(11,[]),(12,[]),(13,[]),(14,[]),(15,[]),(16,[]),(17,[]),(18,[]),(19,[18]),(20,[18]),(21,[18]),(22,[18])] [(0,[18])] (by kernel_rfl) (by kernel_rfl) (D4 Z Z (by kernel_rfl) Z Z (A5 Z Z) (D4 Z Z (by kernel_rfl) Z Z (A5 Z Z) (D4 Z Z (by kernel_rfl) Z Z (B2 Z) (D4 Z Z (by kernel_rfl) Z Z (A8 Z) (D4 Z Z (by kernel_rfl) Z Z (A8 Z) (D4 Z Z (by kernel_rfl) Z Z (A9 Z Z Z) (D4 Z Z (by kernel_rfl) Z Z (A8 Z) (D4 Z Z (by kernel_rfl) Z Z (A9 Z Z Z) (D4 Z Z (by kernel_rfl) Z Z (A5 Z Z) (D4 Z Z (by kernel_rfl) Z Z (B2 Z) (D4 Z Z (by kernel_rfl) Z Z (A8 Z) (D4 Z Z (by kernel_rfl) Z Z (A9 Z Z Z) (D4 Z Z (by kernel_rfl) Z Z (A8 Z) (D4 Z Z (by kernel_rfl) Z Z (A9 Z Z Z) (D4 Z Z (by kernel_rfl) Z Z (C0 Z (.pure _ _ _ _) Z (by omega) hnv) (D4 Z Z (by kernel_rfl) Z Z (C9 Z Z) (D4 Z Z (by kernel_rfl) Z Z (F3 Z) (D4 Z Z (by kernel_rfl) Z Z (E2 (c:=rowC) (ys:=[⟨true,m.Parents,names.getD m.Line.toNat []⟩]) (E9 Z Z Z Z I4) Z Z Z) (W0 Z Z (by kernel_rfl) Z Z (A87 (fun frc hU=>L1 (T5 hU Z) Z (T5 hU Z) (.pure _ _ _ _) (by (simp only [K58,K61];omega)) Z)) Z (D4 Z Z (by kernel_rfl) Z Z (B2 Z) (D4 Z Z (by kernel_rfl) Z Z (A8 Z) (D4 Z Z (by kernel_rfl) Z Z (A8 Z) (W0 Z Z (by kernel_rfl) Z Z (C77 (fun frc hU=>B7 TySz.out (T5 hU Z) Z (T5 hU Z) Z Z Z)) Z ?_)))))))))))))))))))))));refine w_nilG rfl (by kernel_rfl) rfl ?_ ?_
  ·refine K6 Z Z (by kernel_rfl) Z Z (A5 Z Z) ?_;exact C08
  refine k4 (k1 ?_)
  refine A4 (A3 (C6 Z Z (by omega)) Z (A3 (A5 Z Z) Z (A7 ?_)))
  refine k1 ?_
  refine ⟨i+1,by omega,by omega,?_⟩
  rw [hst,hFi,←K68,←hQ]
  exact K20 ⟨le1 rfl,le1 rfl,le1 rfl,le1 rfl,le1 rfl,le1 rfl,le1 rfl,le1 rfl,trivial⟩ (M5 hH) (by repeat (first | exact C5 | refine tail_drop rfl ?_ | refine tail_cons rfl ?_ | refine A88 _ rfl ?_)) (ObIn.spec (ob':=A29 names lines ms gs n (Q++[⟨true,m.Parents,names.getD m.Line.toNat []⟩])) ⟨rfl,rfl,rfl,trivial⟩)
 have hil2:i=l.length:=by have:=A1 ht;omega
 rw [hil2,K87] at hil ⊢
 rw [←K68] at hRs
 obtain ⟨Q,hQ⟩:∃Q,Q=R k++l.map F:=⟨_,rfl⟩
 rw [←hQ] at hil hRs ⊢
 refine k6 (k2 ?_)
 ·skip
  refine A4 (A3 (A5 Z Z) Z (A3 (A5 Z Z) Z (A3 (B2 Z) Z (A3 (A8 Z) Z (A3 (A9 Z Z Z) Z (A3 (F4 Z (.pure _ _ _ _)) Z (A3 (E5 Z Z) Z (A7 ?_))))))))
  refine k1 ?_
  refine B4 rfl (fun ht=>?_) (fun ht=>?_)
  ·have hkf:k < file.length:=by have:=A0 ht;omega
   rw [if_pos hkf] at hRs
   obtain ⟨q1,q2⟩:=hnm k hkf
   have hmv:ms[((k:Nat):Int).toNat]?=some (ms.getD k 0):=by rw [K62,K60,K57 (by omega)];rfl
   have hlv:lines[((k:Nat):Int).toNat]?=some (lines.getD k 0):=by rw [K62,K60,K57 (by omega)];rfl
   have q3:=(List.getElem?_eq_some_iff.1 q2).1
   skip
   refine L8 ([(0,.s (.one (.ref 730 0))),(3,C2 k),(12,D3 (List (List Int)) 1 intssC gs),(13,C2 gs.length),(14,C2 k)]++D8 [708,733] gf) (A29 names lines ms gs n Q) (K20 ⟨le1 rfl,le1 rfl,le1 rfl,le1 rfl,le1 rfl,trivial⟩ (M5 hH) (by repeat (first | exact C5 | refine tail_cons rfl ?_)) (fun _ _ h=>h)) ?_
   refine O3 [32,28] [[],[28],[32,28]] [(28,([733],[68])),(32,([],[]))] [(0,[]),(1,[]),(2,[]),(3,[]),(4,[]),(5,[]),(6,[]),(7,[]),(8,[]),(9,[]),(10,[]),(11,[]),(12,[]),(13,[]),(14,[]),(15,[]),(16,[]),(17,[]),(18,[]),(19,[]),(20,[]),(21,[]),(22,[]),(23,[]),(24,[]),(25,[]),(26,[]),(27,[]),(28,[]),(29,[28]),(30,[28]),(31,[28]),(32,[28])] [(0,[28])] (by kernel_rfl) (by kernel_rfl) (D4 Z Z (by kernel_rfl) Z Z (A5 Z Z) (D4 Z Z (by kernel_rfl) Z Z (A5 Z Z) (D4 Z Z (by kernel_rfl) Z Z (B2 Z) (D4 Z Z (by kernel_rfl) Z Z (A8 Z) (D4 Z Z (by kernel_rfl) Z Z (A8 Z) (D4 Z Z (by kernel_rfl) Z Z (A9 Z Z Z) (D4 Z Z (by kernel_rfl) Z Z (A5 Z Z) (D4 Z Z (by kernel_rfl) Z Z (B2 Z) (D4 Z Z (by kernel_rfl) Z Z (A8 Z) (D4 Z Z (by kernel_rfl) Z Z (A9 Z Z Z) (D4 Z Z (by kernel_rfl) Z Z (A5 Z Z) (D4 Z Z (by kernel_rfl) Z Z (C0 Z (.pure _ _ _ _) Z (by omega) hmv) (D4 Z Z (by kernel_rfl) Z Z (C9 Z Z) (D4 Z Z (by kernel_rfl) Z Z (A5 Z Z) (D4 Z Z (by kernel_rfl) Z Z (B2 Z) (D4 Z Z (by kernel_rfl) Z Z (A8 Z) (D4 Z Z (by kernel_rfl) Z Z (A9 Z Z Z) (D4 Z Z (by kernel_rfl) Z Z (A5 Z Z) (D4 Z Z (by kernel_rfl) Z Z (B2 Z) (D4 Z Z (by kernel_rfl) Z Z (A8 Z) (D4 Z Z (by kernel_rfl) Z Z (A9 Z Z Z) (D4 Z Z (by kernel_rfl) Z Z (A5 Z Z) (D4 Z Z (by kernel_rfl) Z Z (C0 Z (.pure _ _ _ _) Z (by omega) hlv) ?_)))))))))))))))))))))));refine D4 Z Z (by kernel_rfl) Z Z (C9 Z Z) (D4 Z Z (by kernel_rfl) Z Z (C0 Z (.pure _ _ _ _) Z (by omega) q2) (D4 Z Z (by kernel_rfl) Z Z (C9 Z Z) (D4 Z Z (by kernel_rfl) Z Z (F3 Z) (D4 Z Z (by kernel_rfl) Z Z (E2 (c:=rowC) (ys:=[⟨false,ms.getD k 0,file.getD k []⟩]) (E9 Z Z Z Z I4) Z Z Z) (W0 Z Z (by kernel_rfl) Z Z (A87 (fun frc hU=>L1 (T5 hU Z) Z (T5 hU Z) (.pure _ _ _ _) (by (simp only [K58,K61];omega)) Z)) Z (D4 Z Z (by kernel_rfl) Z Z (B2 Z) (D4 Z Z (by kernel_rfl) Z Z (A8 Z) (D4 Z Z (by kernel_rfl) Z Z (A8 Z) (W0 Z Z (by kernel_rfl) Z Z (C77 (fun frc hU=>B7 TySz.out (T5 hU Z) Z (T5 hU Z) Z Z Z)) Z ?_)))))))))
   refine w_nilG rfl (by kernel_rfl) rfl ?_ ?_
   ·refine K6 Z Z (by kernel_rfl) Z Z (A5 Z Z) ?_;exact C08
   refine k4 (k1 ?_)
   refine A4 (A3 (C6 Z Z (by omega)) Z (A3 (A5 Z Z) Z (A7 ?_)))
   refine k1 ?_
   refine ⟨k+1,by omega,by omega,?_⟩
   rw [hRs]
   exact K20 ⟨le1 rfl,le1 rfl,le1 rfl,le1 rfl,trivial⟩ (M5 hH) (by repeat (first | exact C5 | refine tail_drop rfl ?_ | refine tail_cons rfl ?_ | refine A88 _ rfl ?_)) (ObIn.spec (ob':=A29 names lines ms gs n (Q++[⟨false,ms.getD k 0,file.getD k []⟩])) ⟨rfl,rfl,rfl,trivial⟩)
  ·have hkf:¬k < file.length:=by have:=A1 ht;omega
   rw [if_neg hkf,K81] at hRs
   refine k5 (k4 (k1 ?_))
   refine A4 (A3 (C6 Z Z (by omega)) Z (A3 (A5 Z Z) Z (A7 ?_)))
   refine k1 ?_
   refine ⟨k+1,by omega,by omega,?_⟩
   rw [hRs]
   exact K20 ⟨le1 rfl,le1 rfl,le1 rfl,le1 rfl,trivial⟩ (M5 hH) (by repeat (first | exact C5 | refine tail_drop rfl ?_ | refine tail_cons rfl ?_ | refine A88 _ rfl ?_)) (fun _ _ h=>h)
theorem I00 (l:List Str) (s:Str):∀k:Int,0≤k→s∈l→l[(I5 l s k - k).toNat]?=some s:=by
 induction l with
 | nil=>intro k _ h;cases h
 | cons x r ih =>
  intro k h0 h
  by_cases hx:x=s
  ·unfold I5
   rw [if_pos hx,Int.sub_self,hx];rfl
  ·have hm:s∈r:=by rcases List.mem_cons.1 h with rfl | h;exact absurd rfl hx;exact h
   have h1:=ih (k+1) (by omega) hm
   have h2:=A99 r s (k+1) (by omega) hm
   unfold I5
   rw [if_neg hx,show (I5 r s (k+1) - k).toNat=(I5 r s (k+1) - (k+1)).toNat+1 by omega,List.getElem?_cons_succ]
   exact h1
theorem H04 (k:Nat):(R6 k++[TC.mut 734]).map (TC.ren 734 (k+1000))=R6 (k+1):=by
 unfold R6 O2
 rw [K73,K98,K73,K93]
 have h1:(List.range k).map (TC.ren 734 (k+1000) ∘ fun r=>if r < 0 then TC.p (.list (List Int) 1 intsC []) else TC.mut (r+1000))=(List.range k).map fun r=>if r < 0 then TC.p (.list (List Int) 1 intsC []) else TC.mut (r+1000):=by
  refine List.map_congr_left fun r hr=>?_
  show TC.ren 734 (k+1000) (if r < 0 then _ else TC.mut (r+1000))=_
  rw [if_neg (by omega)]
  simp [TC.ren,J2 (show r+1000≠734 by omega)]
 exact congr (congrArg _ h1) (by simp [TC.ren])
abbrev G34 (n:Nat):Nat→List (List Int):=fun _=>List.replicate n []
theorem J78 {k:Nat} (hk:k < 1000) {m:Nat} {g:Nat→List (List Int)}:I1 k (L6 intsC g (List.range m))=true:=C30 (k:=k) (by omega) (List.range m) (fun r _=>by omega) (c:=intsC) (g:=g)
abbrev I65 (names:List Str) (lines ms:List Int) (n k:Nat):Obs:=[(4,y6),(730,c6 names lines n),(731,.arr Int 1 C66 ms),(732,.growT 138 k 1 (R6 k))]
theorem G35 (k:Nat):(R6 k).all (TC.free (k+1000))=true:=by
 rw [List.all_eq_true]
 intro t ht
 obtain ⟨r,hr,rfl⟩:=List.mem_map.1 ht
 have:=List.mem_range.1 hr
 rw [if_neg (by omega)]
 simp [TC.free,J2 (show r+1000≠k+1000 by omega)]
theorem I01 (m:Nat) (g:Nat→List (List Int)):R6 m=O2 intsC m 0 g:=by
 unfold R6 O2
 refine List.map_congr_left fun r _=>?_
 rw [if_neg (by omega),if_neg (by omega)]
theorem I02 (q:Nat) (g:Nat→List (List Int)) (l:List Nat):Obs.forget q (L6 intsC g l)=L6 intsC g l:=by
 unfold Obs.forget L6
 rw [K93]
 exact List.map_congr_left fun r _=>rfl
theorem gap_fgt {K:List Nat} {q:Nat} {g:Nat→List (List Int)} {l:List Nat}:∀j x,R5 K j=false→C4 (L6 intsC g l) j=some x→C4 (Obs.forget q (L6 intsC g l)) j=some x:=fun j x _ h=>by rw [I02];exact h
theorem E45 (q:Nat) (names:List Str) (lines ms:List Int) (n k:Nat) (hq:q < 1000) (h1:4≠q) (h2:730≠q) (h3:731≠q) (h4:732≠q) (g:Nat→List (List Int)):I1 q (I65 names lines ms n k++L6 intsC g (List.range k))=true:=by
 show I1 q ((4,y6)::(730,c6 names lines n)::(731,.arr Int 1 C66 ms)::(732,.growT 138 k 1 (R6 k))::L6 intsC g (List.range k))=true
 simp only [I1,Ob.free,List.all_cons,List.all_nil,TC.free,J78 hq,B47 hq,J2 h1,J2 h2,J2 h3,J2 h4,J2 (Ne.symm h3),J2 (Ne.symm h4)]
 rfl
theorem J04 {P:Program} {nt:Nat} {fr:Fr} {names:List Str} {lines ms:List Int} {n k:Nat} (hk:k≤100000) (hfr:G3 (k+1000) fr=true) :
  Sees P nt fr ([(4,y6),(730,c6 names lines n),(731,.arr Int 1 C66 ms),(732,.growT 138 (k+1) 1 (R6 k++[TC.mut 734])),(734,.arr (List Int) 1 intsC (List.replicate n [])),(735,.tarr 1 1 [.mut 734])]++L6 intsC (G34 n) (List.range k))
   fr (I65 names lines ms n (k+1)++L6 intsC (G34 n) (List.range (k+1))):=by
 refine K48 (j:=734) (k:=k+1000) Z (by simp;omega) (by omega) hfr ?_
 intro i o h
 have b731:=J2 (show 731≠k+1000 by omega)
 have b732:=J2 (show 732≠k+1000 by omega)
 have b734:=J2 (show 734≠k+1000 by omega)
 by_cases e1:i=4
 ·subst e1
  have h:some y6=some o:=h
  cases h
  exact ⟨by omega,y6,by rw [if_neg (by omega)];rfl,rfl,rfl⟩
 by_cases e2:i=730
 ·subst e2
  have h:some (c6 names lines n)=some o:=h
  cases h
  exact ⟨by omega,c6 names lines n,by rw [if_neg (by omega)];rfl,by simp [Ob.free,TC.free,b731,b732],rfl⟩
 by_cases e3:i=731
 ·subst e3
  have h:some (.arr Int 1 C66 ms)=some o:=h
  cases h
  exact ⟨by omega,_,by rw [if_neg (by omega)];rfl,rfl,rfl⟩
 by_cases e4:i=732
 ·subst e4
  have h:some (.growT 138 (k+1) 1 (R6 (k+1)))=some o:=h
  cases h
  refine ⟨by omega,.growT 138 (k+1) 1 (R6 k++[TC.mut 734]),by rw [if_neg (by omega)];rfl,?_,?_⟩
  ·simp only [Ob.free,L05,G35,List.all_cons,List.all_nil,TC.free,b734];rfl
  ·show _=Ob.growT _ _ _ _
   rw [H04]
 have h:C4 ([(4,y6),(730,c6 names lines n),(731,.arr Int 1 C66 ms),(732,.growT 138 (k+1) 1 (R6 (k+1)))]++L6 intsC (G34 n) (List.range (k+1))) i=some o:=h
 have hno:C4 ([(4,y6),(730,c6 names lines n),(731,.arr Int 1 C66 ms),(732,.growT 138 (k+1) 1 (R6 (k+1)))]:Obs) i=none:=by
  rw [B6 (Ne.symm e1),B6 (Ne.symm e2),B6 (Ne.symm e3),B6 (Ne.symm e4)];rfl
 rw [O1 hno] at h
 obtain ⟨r,h1,rfl,rfl⟩:=(A24 _ _ _).1 h
 have h1:=List.mem_range.1 h1
 refine ⟨by omega,.arr (List Int) 1 intsC (List.replicate n []),?_,rfl,rfl⟩
 by_cases er:r=k
 ·subst er;rw [if_pos rfl];rfl
 ·rw [if_neg (by omega),O1 (B35 rfl (by omega))]
  exact B79 (List.mem_range.2 (by omega))
set_option maxHeartbeats 2000000
theorem J79 (result:Str) (parents:List Str) (B:Nat) (hpl:parents.length≤536870912) (hB:32*B≤4096) (h0:(C1 result).length≤B∧result.length≤4096) (h1:∀b∈parents,(C1 b).length≤B∧b.length≤4096) :
  FnOk Tryz.prog 53 [G7 result,Z6 parents] (fun rs=>rs=[pTable (G5 result parents).1,F0 (G5 result parents).2]):=by
 refine FnOk.intro Tryz.func53 (by decide) Z Z Z Z ?_
 refine k2 ?_
 refine A4 (C7 (G4 4 Z) Z (A3 (A6 Z Z) Z (A7 ?_)))
 refine k1 (k2 ?_)
 refine A4 (A3 (A5 Z Z) Z (A3 (F4 Z (.pure _ _ _ _)) Z (A3 (A6 Z Z) Z (A7 ?_))))
 refine k1 (k2 (k2 ?_))
 refine A4 (A3 (A5 Z Z) Z (A3 (E5 Z Z) Z (A3 (A5 Z Z) Z (B0 Z Z Z Z (fun hg=>by rw [hg];exact A5 Z Z) ?_))));refine B0 Z Z Z Z (fun hg=>by rw [hg];exact Q1 Z Z) ?_;refine A3 (B5 Z (fun h=>by first | rfl | (rw [h];rfl)) (fun h=>by first | rfl | (rw [h];rfl))) Z ?_;refine A7 ?_
 refine k1 ?_
 refine B4 rfl (fun ht=>?_) (fun ht=>?_)
 ·have hc:=A0 (or_pick.symm.trans ht)
  refine k2 ?_
  refine A4 (A3 (F3 Z) Z (E1 (B7 TySz.out Z Z Z Z Z Z) (A3 (A6 Z Z) Z (A7 ?_))))
  refine k1 ?_
  refine E6 (K21 Row 3 rowC 4 1 Z Z) ?_
  refine k10 (k11 ?_)
  exact B8 (rs:=[pTable ⟨0,[]⟩,F0 2]) (Q3 rfl rfl rfl rfl rfl rfl rfl) (by rw [G5,if_pos (by omega)])
 have hc:=A1 (or_pick.symm.trans ht)
 obtain ⟨n,hn⟩:∃n,n=parents.length:=⟨_,rfl⟩
 have hn1:1≤n∧n≤32:=by omega
 obtain ⟨f0,hf0⟩:∃f0,f0=C1 result:=⟨_,rfl⟩
 obtain ⟨fs,hfs⟩:∃fs,fs=C1 result::parents.map C1:=⟨_,rfl⟩
 have hfsm:fs=(result::parents).map C1:=by rw [hfs];rfl
 have hfl:fs.length=n+1:=by rw [hfs,hn];simp
 have hfB:∀f∈fs,f.length≤B:=by
  intro f hf
  rw [hfs] at hf
  rcases List.mem_cons.1 hf with rfl | hf
  ·exact h0.1
  ·obtain ⟨b,hb,rfl⟩:=List.mem_map.1 hf;exact (h1 b hb).1
 have hflat:fs.flatten.length≤(n+1)*B:=by
  rw [←hfl]
  clear hfsm hfs hfl
  induction fs with
  | nil=>simp
  | cons x r ih =>
   have:=ih fun f hf=>hfB f (List.mem_cons_of_mem _ hf)
   have:=hfB x (by simp)
   rw [K72,K56,K58,K80,Nat.one_mul];omega
 have hnB:n*B≤4096:=Nat.le_trans (K71 _ hn1.2) hB
 have hB1:(n+1)*B≤8192:=by rw [K80,Nat.one_mul];omega
 obtain ⟨names,hnames⟩:∃names,names=I6 fs:=⟨_,rfl⟩
 obtain ⟨ids,hids⟩:∃ids,ids=fs.map (O7 names):=⟨_,rfl⟩
 have hidl:ids.length=n+1:=by rw [hids,K84,hfl]
 obtain ⟨base,hbase⟩:∃base,base=O7 names f0:=⟨_,rfl⟩
 have hb0:base=ids.getD 0 []:=by rw [hids,hfs,hbase,hf0];rfl
 have hbl:base.length=f0.length:=by rw [hbase];simp [O7]
 have hf0B:f0.length≤B:=by rw [hf0];exact h0.1
 have hidB:∀x∈ids,x.length≤B∧∀v∈x,0≤v∧v < (names.length:Int):=by
  intro x hx
  have h2:∀v∈x,0≤v∧v < (names.length:Int):=by rw [hnames];exact ids_in fs x (by rw [←hnames,←hids];exact hx)
  rw [hids] at hx
  obtain ⟨f,hf,rfl⟩:=List.mem_map.1 hx
  exact ⟨by rw [O7,K84];exact hfB f hf,h2⟩
 have hv0:ids[(0:Int).toNat]?=some base:=by rw [hb0,K60];show ids[0]?=_;rw [K57 (by omega)];rfl
 have hsame:=fun p hp=>B93 (n:=n) hb0 (fun x hx=>by have:=(hidB x hx).1;omega) (by omega) p hp
 have hok:∀p,LoomOk (fun v=>0≤v∧v < (names.length:Int)) B base.length n (X1 ids base.length n p):=fun p=>A71 hidB p
 have hmk:G5 result parents=(⟨n,X2 names f0 (X1 ids base.length n n) (f0.length+1)⟩,0):=by
  rw [G5,if_neg (by omega)]
  dsimp only
  rw [←hfs,←hnames,←hids,←hf0,←hn,←hbl]
  rw [if_neg]
  rintro ⟨k,hk,hk2⟩
  refine hk2 ?_
  have h3:=(hok n).gaps k
  unfold H4
  rw [if_neg (by omega)]
  exact B21 _ _ _ B (fun x hx=>(h3.2 x hx).1) (by rw [h3.1];simp only [K61];omega)
 rw [hmk]
 refine L8 [(0,J0 result),(1,D3 Str 1 L0 parents),(4,.s (.one (.ref 4 0))),(6,C2 n)] [(4,y6)] (by rw [hn];exact K19 ⟨le1 rfl,le1 rfl,le1 rfl,le1 rfl,trivial⟩ ⟨rfl,trivial⟩) ?_
 refine k5 (k1 (k2 ?_))
 refine A4 (C7 (B77 760 _ strsC Z) Z (A7 ?_))
 refine k1 (k2 (k2 ?_))
 obtain ⟨bl,hbld⟩:∃bl,bl=result::parents:=⟨_,rfl⟩
 have hbll:bl.length=n+1:=by rw [hbld,hn];simp
 refine A4 (A3 (A5 Z Z) Z (A3 (B44 (c:=L0) (ys:=[result]) (E9 Z Z Z Z I4) Z Z Z) Z (A3 (A5 Z Z) Z (A3 (C10 Z Z (.pure _ _ _ _) (by (simp only [K58,K61];omega)) ((by omega))) Z (A3 (F4 Z (.pure _ _ _ _)) Z (A3 (A5 Z Z) Z (A7 ?_)))))))
 refine k1 (k3 ?_)
 rw [show [result]++parents=bl by rw [hbld];rfl]
 have hblB:∀b∈bl,(C1 b).length≤B∧b.length≤4096:=by
  intro b hb
  rw [hbld] at hb
  rcases List.mem_cons.1 hb with rfl | hb
  ·exact h0
  ·exact h1 b hb
 have hfsb:fs=bl.map C1:=by rw [hfsm,hbld]
 refine E4 (X:=Nat) (fun k=>([(4,.s (.one (.ref 4 0))),(6,C2 n),(7,.s (.one (.buf 760 (List Str) 1 strsC ((bl.take k).map C1)))),(29,D3 Str 1 L0 bl),(30,C2 bl.length),(31,C2 k)],[(4,y6),(760,.spare ((bl.take k).map C1).length 1 60)])) (fun k=>k≤bl.length) (fun k=>bl.length - k) 0 (Nat.zero_le _) (K19 ⟨le1 rfl,le1 rfl,le1 rfl,le1 rfl,le1 rfl,le1 rfl,trivial⟩ ⟨rfl,rfl,trivial⟩) ?_
 intro k hk
 dsimp only at hk ⊢
 have hml:((bl.take k).map C1).length=k:=by rw [K84,K70];omega
 refine k2 ?_
 refine A4 (A3 (E5 Z Z) Z (A7 ?_))
 refine k1 (k2 ?_)
 refine B4 rfl (fun ht=>?_) (fun ht=>?_)
 ·have hlt:k < bl.length:=by have:=A0 ht;omega
  have hv:bl[k]?=some bl[k]:=by simp [hlt]
  have hbB:=hblB _ (K76 hlt)
  have hst:(bl.take (k+1)).map C1=(bl.take k).map C1++[C1 bl[k]]:=by rw [K67 hlt];simp only [K73,K63,K96]
  obtain ⟨b,hb⟩:∃b,b=bl[k]:=⟨_,rfl⟩
  rw [←hb] at hv hbB hst
  have hsp:=I99 b (by omega)
  rw [F41 hbB.2] at hsp
  dsimp only at hsp
  refine k5 (k1 (k2 (k3 (k2 ?_))))
  refine A4 (A3 (C0 Z (.pure _ _ _ _) Z (by omega) hv) Z (A3 (C9 Z Z) Z (A3 (A6 Z Z) Z (A7 ?_))))
  refine k1 (k2 ?_)
  refine A4 (A3 (A5 Z Z) Z (B9 (hsp) Z Z Z ?_));rintro _ rfl;refine A3 (A5 Z Z) Z (A3 (B3 Z Z) Z (A3 (B3 Z Z) Z (A3 (A6 Z Z) Z (A3 (A6 Z Z) Z (A7 ?_)))))
  refine k1 (k2 (k2 ?_))
  refine A4 (A3 (A5 Z Z) Z (A3 (N6 Z Z) Z (A7 ?_)))
  refine k1 ?_
  refine B4 rfl (fun ht=>?_) (fun ht=>?_)
  ·cases ht
  refine k5 (k1 ?_)
  refine A4 (A3 (A5 Z Z) Z (A3 (A5 Z Z) Z (A3 (E2 (c:=strsC) (ys:=[C1 b]) (E9 Z Z Z Z I4) Z Z Z) Z (C7 (L1 Z Z Z (.pure _ _ _ _) (by (rw [hml];simp only [K58,K61];omega)) Z) Z ?_))));refine A3 (A6 Z Z) Z (A7 ?_)
  refine k4 (k1 ?_)
  refine A4 (A3 (C6 Z Z (by omega)) Z (A3 (A5 Z Z) Z (A7 ?_)))
  refine k1 ?_
  refine ⟨k+1,by omega,by omega,?_⟩
  rw [hst]
  exact K19 ⟨le1 rfl,le1 rfl,le1 rfl,le1 rfl,le1 rfl,le1 rfl,trivial⟩ ⟨rfl,rfl,trivial⟩
 have hkl:k=bl.length:=by have:=A1 ht;omega
 rw [hkl,K87,←hfsb]
 have hI:=G32 fs (by omega) (by omega)
 have hN:=E44 fs (by omega) (by omega)
 rw [←hnames,←hids] at hI
 rw [←hnames] at hN
 refine k6 (k2 ?_)
 refine A4 (A3 (A5 Z Z) Z (B9 (hI) Z Z Z ?_));rintro _ rfl;refine A3 (A6 Z Z) Z (A7 ?_)
 refine E6 (fr':=[(4,.s (.one (.ref 4 0))),(6,C2 n),(7,D3 (List Str) 1 strsC fs),(12,D3 (List Int) 1 intsC ids)]) (ob':=[(4,y6)]) (K19 ⟨le1 rfl,le1 rfl,leL rfl,le1 rfl,trivial⟩ ⟨rfl,trivial⟩) ?_
 refine k2 ?_
 refine O3 [13,9] [[],[9],[13,9]] [(9,([731],[])),(13,([730],[]))] [(0,[]),(1,[]),(2,[]),(3,[]),(4,[]),(5,[]),(6,[]),(7,[]),(8,[]),(9,[]),(10,[]),(11,[]),(12,[9]),(13,[9]),(14,[13,9])] [(0,[9]),(1,[9]),(2,[9]),(3,[9]),(4,[9]),(10,[9]),(11,[9])] (by kernel_rfl) (by kernel_rfl) (D4 Z Z (by kernel_rfl) Z Z (A5 Z Z) (D4 Z Z (by kernel_rfl) Z Z (O0 (hN) Z Z) (D4 Z Z (by kernel_rfl) Z Z (A5 Z Z) (D4 Z Z (by kernel_rfl) Z Z (C0 Z (.pure _ _ _ _) Z (by omega) hv0) (D4 Z Z (by kernel_rfl) Z Z (C9 Z Z) (D4 Z Z (by kernel_rfl) Z Z (A5 Z Z) (D4 Z Z (by kernel_rfl) Z Z (C0 Z (.pure _ _ _ _) Z (by omega) hv0) (D4 Z Z (by kernel_rfl) Z Z (C9 Z Z) (D4 Z Z (by kernel_rfl) Z Z (F4 Z (.pure _ _ _ _)) (W0 Z Z (by kernel_rfl) Z Z (E02 (fun frc hU hk=>x6 731 Int C66 0 (T5 hU Z) (T5 hU Z) (by omega) (by omega) (fun _=>by first | exact ⟨⟨rfl,rfl⟩,trivial⟩ | exact ⟨P1 _ _ _,trivial⟩) (by rw [hk];rfl))) Z ?_))))))))));refine D4 Z Z (by kernel_rfl) Z Z (A5 Z Z) (D4 Z Z (by kernel_rfl) Z Z (F3 Z) (D4 Z Z (by kernel_rfl) Z Z (F3 Z) (W0 Z Z (by kernel_rfl) Z Z (E02 (fun frc hU hk=>T7 730 (T5 hU Z) Z (by rw [hk];rfl))) Z ?_)));refine D4 Z Z (by kernel_rfl) Z Z (A6 Z Z) ?_;refine C76 (by kernel_rfl) rfl ?_ ?_
 ·refine K6 Z Z (by kernel_rfl) Z Z (A5 Z Z) (K6 Z Z (by kernel_rfl) Z Z (O0 (hN) Z Z) (K6 Z Z (by kernel_rfl) Z Z (A5 Z Z) (K6 Z Z (by kernel_rfl) Z Z (C0 Z (.pure _ _ _ _) Z (by omega) hv0) (K6 Z Z (by kernel_rfl) Z Z (C9 Z Z) (K6 Z Z (by kernel_rfl) Z Z (A5 Z Z) (K6 Z Z (by kernel_rfl) Z Z (F3 Z) ?_))))));exact C08
 rw [K62]
 refine k1 (k2 (k2 ?_))
 refine E6 (K35 732 (List (List Int)) 1 intssC 138 (kb:=730) (o:=3) Z Z Z) ?_
 refine E6 (K54 732 Z) ?_
 refine A4 (A3 (A5 Z Z) Z (A3 (C0 Z (.pure _ _ _ _) Z (by omega) hv0) Z (A3 (C9 Z Z) Z (A3 (F4 Z (.pure _ _ _ _)) Z (A3 (C6 Z Z (by omega)) Z (A3 (A5 Z Z) Z (A7 ?_)))))))
 refine k1 (k3 ?_)
 refine E4 (X:=Nat) (fun k=>([(4,.s (.one (.ref 4 0))),(6,C2 n),(12,D3 (List Int) 1 intsC ids),(13,.s (.one (.ref 730 0))),(69,C2 ((base.length:Int)+1)),(70,C2 k)],I65 names base (List.replicate base.length 0) n k++L6 intsC (G34 n) (List.range k))) (fun k=>k≤base.length+1) (fun k=>base.length+1 - k) 0 (Nat.zero_le _) (K19 ⟨le1 rfl,le1 rfl,le1 rfl,le1 rfl,le1 rfl,le1 rfl,trivial⟩ ⟨rfl,rfl,rfl,rfl,trivial⟩) ?_
 intro k hk
 dsimp only at hk ⊢
 refine k2 ?_
 refine A4 (A3 (E5 Z Z) Z (A7 ?_))
 refine k1 (k2 ?_)
 refine B4 rfl (fun ht=>?_) (fun ht=>?_)
 ·have hlt:k < base.length+1:=by have:=A0 ht;omega
  have hfree:=E45 734 names base (List.replicate base.length 0) n k (by omega) (by omega) (by omega) (by omega) (by omega) (G34 n)
  have hfree5:I1 735 ((734,.arr (List Int) 1 intsC (List.replicate n []))::(I65 names base (List.replicate base.length 0) n k++L6 intsC (G34 n) (List.range k)))=true:=by
   have:=E45 735 names base (List.replicate base.length 0) n k (by omega) (by omega) (by omega) (by omega) (by omega) (G34 n)
   rw [I1,this];rfl
  have h732:(R6 k++[TC.mut 734]).map (TC.forget 732)=R6 k++[TC.mut 734]:=m8 (by rw [L05,B47 (by omega)];rfl)
  refine k5 (k1 (k2 (k3 ?_)))
  refine O3 [11,8,7,6] [[],[6],[7,6],[8,7,6],[11,8,7,6]] [(6,([734],[])),(7,([735],[])),(8,([732],[76])),(11,([],[]))] [(0,[]),(1,[]),(2,[]),(3,[]),(4,[]),(5,[]),(6,[]),(7,[6]),(8,[7,6]),(9,[8,7,6]),(10,[8,7,6]),(11,[8,7,6])] [(0,[6]),(0,[7,6]),(0,[8,7,6]),(1,[6]),(1,[7,6]),(2,[6]),(2,[7,6]),(3,[6]),(3,[7,6]),(4,[6]),(4,[7,6])] (by kernel_rfl) (by kernel_rfl) (D4 Z Z (by kernel_rfl) Z Z (A5 Z Z) (D4 Z Z (by kernel_rfl) Z Z (A5 Z Z) (D4 Z Z (by kernel_rfl) Z Z (B2 Z) (D4 Z Z (by kernel_rfl) Z Z (A8 Z) (D4 Z Z (by kernel_rfl) Z Z (A9 Z Z Z) (D4 Z Z (by kernel_rfl) Z Z (A5 Z Z) (W0 Z Z (by kernel_rfl) Z Z (E02 (fun frc hU hk=>x6 734 (List Int) intsC [] (T5 hU Z) (T5 hU Z) (by omega) (by omega) (fun _=>by first | exact ⟨⟨rfl,rfl⟩,trivial⟩ | exact ⟨P1 _ _ _,trivial⟩) (by rw [hk];exact hfree))) Z ?_)))))));refine W0 Z Z (by kernel_rfl) Z Z (E02 (fun frc hU hk=>J70 735 (T5 hU Z) Z Z Z Z (by rw [hk];exact hfree5))) Z ?_;refine W0 Z Z (by kernel_rfl) Z Z (A87 (fun frc hU=>G27 (T5 hU Z) Z (T5 hU Z) Z (by omega) Z)) Z (D4 Z Z (by kernel_rfl) Z Z (B2 Z) (D4 Z Z (by kernel_rfl) Z Z (A8 Z) (W0 Z Z (by kernel_rfl) Z Z (C77 (fun frc hU=>B7 TySz.out (T5 hU Z) Z (T5 hU Z) Z Z Z)) Z ?_)));refine C76 (by kernel_rfl) rfl ?_ ?_
  ·refine K6 Z Z (by kernel_rfl) Z Z (A5 Z Z) (K6 Z Z (by kernel_rfl) Z Z (A5 Z Z) (K6 Z Z (by kernel_rfl) Z Z (A5 Z Z) (K6 Z Z (by kernel_rfl) Z Z (A5 Z Z) (K6 Z Z (by kernel_rfl) Z Z (A5 Z Z) (K6 Z Z (by kernel_rfl) Z Z (B2 Z) (K6 Z Z (by kernel_rfl) Z Z (B2 Z) (K6 Z Z (by kernel_rfl) Z Z (A8 Z) (K6 Z Z (by kernel_rfl) Z Z (A8 Z) (K6 Z Z (by kernel_rfl) Z Z (A9 Z Z Z) (K6 Z Z (by kernel_rfl) Z Z (A9 Z Z Z) ?_))))))))));exact C08
  refine L8 [(4,.s (.one (.ref 4 0))),(6,C2 n),(12,D3 (List Int) 1 intsC ids),(13,.s (.one (.ref 730 0))),(69,C2 ((base.length:Int)+1)),(70,C2 k)] ([(4,y6),(730,c6 names base n),(731,.arr Int 1 C66 (List.replicate base.length 0)),(732,.growT 138 (k+1) 1 (R6 k++[TC.mut 734])),(734,.arr (List Int) 1 intsC (List.replicate n [])),(735,.tarr 1 1 [.mut 734])]++L6 intsC (G34 n) (List.range k)) (K29 ⟨le1 rfl,le1 rfl,le1 rfl,le1 rfl,le1 rfl,le1 rfl,trivial⟩ (B82 (L:=[(4,_),(730,_),(731,_),(732,_),(734,_),(735,_)]) ⟨rfl,rfl,rfl,congrArg (fun ts=>some (Ob.growT 138 (k+1) 1 ts)) h732,rfl,rfl,trivial⟩ (by repeat (first | exact gap_fgt | refine B41 rfl ?_)))) ?_
  refine E6 (J04 (by omega) (by simp only [G3,SV.free,S1.free,TC.free,J2 (show 4≠k+1000 by omega),J2 (show 730≠k+1000 by omega)];rfl)) ?_
  skip
  refine A4 (A3 (C6 Z Z (by omega)) Z (A3 (A5 Z Z) Z (A7 ?_)))
  refine k1 ?_
  refine ⟨k+1,by omega,by omega,?_⟩
  exact K29 ⟨le1 rfl,le1 rfl,le1 rfl,le1 rfl,le1 rfl,le1 rfl,trivial⟩ (fun _ _ h=>h)
 have hkb:k=base.length+1:=by have:=A1 ht;omega
 rw [hkb]
 refine L8 [(4,.s (.one (.ref 4 0))),(6,C2 n),(12,D3 (List Int) 1 intsC ids),(13,.s (.one (.ref 730 0)))] (B46 names base (List.replicate base.length 0) (G34 n) n (base.length+1)) (K29 ⟨le1 rfl,le1 rfl,le1 rfl,le1 rfl,trivial⟩ (fun _ _ h=>h)) ?_
 refine k6 (k2 (k2 ?_))
 refine A4 (A3 (A5 Z Z) Z (A3 (A5 Z Z) Z (A7 ?_)))
 refine k1 (k3 ?_)
 obtain ⟨s,hs⟩:∃s:Nat→Loom,s=fun p=>x1 ids base.length n p:=⟨_,rfl⟩
 have hsp:∀p,p≤32→s p=X1 ids base.length n p∧(s p).1.length=base.length∧∀k,((s p).2 k).length=n:=fun p hp=>by
  obtain ⟨q1,_,q3⟩:=hsame p hp
  rw [hs]
  dsimp only
  refine ⟨q1,q3,fun k=>?_⟩
  rw [q1]
  exact ((hok p).gaps k).1
 refine E4 (X:=Nat) (fun p=>([(4,.s (.one (.ref 4 0))),(6,C2 n),(12,D3 (List Int) 1 intsC ids),(13,.s (.one (.ref 730 0))),(84,C2 n),(85,C2 p)],B46 names base (s p).1 (s p).2 n (base.length+1))) (fun p=>p≤n) (fun p=>n - p) 0 (Nat.zero_le _) (by rw [hs];exact K29 ⟨le1 rfl,le1 rfl,le1 rfl,le1 rfl,le1 rfl,le1 rfl,trivial⟩ (fun _ _ h=>h)) ?_
 intro p hp
 dsimp only at hp ⊢
 obtain ⟨p1,p2,p3⟩:=hsp p (by omega)
 refine k2 ?_
 refine A4 (A3 (E5 Z Z) Z (A7 ?_))
 refine k1 (k2 ?_)
 refine B4 rfl (fun ht=>?_) (fun ht=>?_)
 ·have hlt:p < n:=by have:=A0 ht;omega
  have hv1:ids[((p:Int)+1).toNat]?=some (ids.getD (p+1) []):=by rw [show ((p:Int)+1).toNat=p+1 by omega,K60,K57 (by omega)];rfl
  have hfB:=(hidB _ (K75 hv1)).1
  have hst:s (p+1)=y9 ids (s p) p:=by rw [hs];exact B63 ids base.length n p
  obtain ⟨file,hfile⟩:∃f,f=ids.getD (p+1) []:=⟨_,rfl⟩
  have hst2:s (p+1)=((N5 file base).foldl (M8 p) (s p).1,(N5 file base).foldl (O9 p file) (s p).2):=by rw [hst,hfile,hb0];rfl
  rw [←hfile] at hv1 hfB
  refine k5 (k1 (k2 (k3 (k2 ?_))))
  refine A4 (A3 (A5 Z Z) Z (A3 (A6 Z Z) Z (A7 ?_)))
  refine k1 (k2 ?_)
  refine A4 (A3 (A5 Z Z) Z (A3 (A5 Z Z) Z (A3 (A5 Z Z) Z (A3 (A5 Z Z) Z (A3 (C6 Z Z (by omega)) Z (A3 (C0 Z (.pure _ _ _ _) Z (by omega) hv1) Z (A3 (C9 Z Z) Z (U3 (J77 names base file (s p).1 (s p).2 n p (by omega) (by omega) p2 (by omega) hlt p3) Z Z Z ?_))))))));rintro _ _ ⟨rfl,rfl⟩;refine A3 (A6 Z Z) Z (A7 ?_)
  refine k1 (k2 ?_)
  refine A4 (A3 (A5 Z Z) Z (A3 (N6 Z Z) Z (A7 ?_)))
  refine k1 ?_
  refine B4 rfl (fun ht=>?_) (fun ht=>?_)
  ·cases ht
  refine k5 (k4 (k1 ?_))
  refine A4 (A3 (C6 Z Z (by omega)) Z (A3 (A5 Z Z) Z (A7 ?_)))
  refine k1 ?_
  refine ⟨p+1,by omega,by omega,?_⟩
  rw [hst2]
  exact K29 ⟨le1 rfl,le1 rfl,le1 rfl,le1 rfl,le1 rfl,le1 rfl,trivial⟩ (fun _ _ h=>h)
 have hpn:p=n:=by have:=A1 ht;omega
 subst hpn
 obtain ⟨ms,hms⟩:∃ms,ms=(s p).1:=⟨_,rfl⟩
 obtain ⟨g,hg⟩:∃g,g=(s p).2:=⟨_,rfl⟩
 have hpair:X1 ids base.length p p=(ms,g):=by rw [←p1,hms,hg]
 rw [←hms,←hg]
 rw [←hms] at p2
 have hgk:=fun k=>(hok p).gaps k
 rw [hpair] at hgk ⊢
 dsimp only at hgk
 refine L8 [(4,.s (.one (.ref 4 0))),(6,C2 p),(13,.s (.one (.ref 730 0)))] ([(4,y6),(730,c6 names base p),(731,.arr Int 1 C66 ms)]++((732,.growT 138 (base.length+1) 1 (O2 intsC (base.length+1) 0 g))::L6 intsC g (List.range (base.length+1)))) (by rw [←I01];exact K29 ⟨le1 rfl,le1 rfl,le1 rfl,trivial⟩ (fun _ _ h=>h)) ?_
 refine E6 (K39 (by omega) rfl rfl (fun r _=>?_) (fun r _=>?_)) ?_
 ·simp only [G3,SV.free,S1.free,TC.free,J2 (show 4≠r+1000 by omega),J2 (show 730≠r+1000 by omega)];rfl
 ·simp only [B80,Ob.free,List.all_cons,List.all_nil,TC.free,J2 (show 731≠r+1000 by omega),J2 (show 732≠r+1000 by omega)];rfl
 obtain ⟨gs,hgs⟩:∃gs,gs=(List.range (base.length+1)).map g:=⟨_,rfl⟩
 rw [←hgs]
 refine E6 (Sees.freeze (k:=731) Z) ?_
 refine E6 (Sees.freezeG (k:=732) Z Z) ?_
 refine L8 [(4,.s (.one (.ref 4 0))),(6,C2 p),(13,.s (.one (.ref 730 0)))] [(4,y6),(730,.box [.p (.list Str 1 L0 names),.p (.list Int 1 G9 base),.p (.list Int 1 C66 ms),.p (.list (List (List Int)) 1 intssC gs),.p (.v (.int .i64 p)),.p (.v (.slice none 0 0))])] (K19 ⟨le1 rfl,le1 rfl,le1 rfl,trivial⟩ ⟨rfl,rfl,trivial⟩) ?_
 refine E6 (K28 733 Row 3 rowC 69 (kb:=730) (o:=5) Z Z Z) ?_
 refine L8 [(4,.s (.one (.ref 4 0))),(6,C2 p),(13,.s (.one (.ref 730 0)))] (A29 names base ms gs p []) (K19 ⟨le1 rfl,le1 rfl,le1 rfl,trivial⟩ ⟨rfl,rfl,rfl,trivial⟩) ?_
 have hnm:∀k,k < f0.length→0≤base.getD k 0∧names[(base.getD k 0).toNat]?=some (f0.getD k []):=by
  intro k hk
  have hm:f0[k]∈names:=by rw [hnames];exact B52 fs _ f0 (by rw [hfs,hf0];simp) (K76 hk)
  have e1:base.getD k 0=I5 names f0[k] 0:=by rw [hbase,K60];unfold O7;rw [K88,K57 hk];rfl
  have e2:f0.getD k []=f0[k]:=by rw [K60,K57 hk];rfl
  have e3:=A99 names f0[k] 0 (Int.le_refl _) hm
  have e4:=I00 names f0[k] 0 (Int.le_refl _) hm
  rw [e1,e2]
  rw [Int.sub_zero] at e4
  exact ⟨e3.1,e4⟩
 have hW:=fun gf=>H99 (gf:=gf) names f0 base ms g p B (by omega) hbl (by omega) (by omega) hnB hgk hnm
 rw [hbl] at hgs
 rw [←hgs] at hW
 refine k6 (k2 (k2 ?_))
 refine A4 (A3 (A5 Z Z) Z (U3 (hW _) Z Z Z ?_));rintro _ _ ⟨rfl,rfl⟩;refine A3 (A6 Z Z) Z (A7 ?_)
 refine k1 (k2 ?_)
 refine A4 (A3 (A5 Z Z) Z (A3 (N6 Z Z) Z (A7 ?_)))
 refine k1 ?_
 refine B4 rfl (fun ht=>?_) (fun ht=>?_)
 ·cases ht
 refine k5 (k1 (k2 ?_))
 refine A4 (A3 (A5 Z Z) Z (A3 (B2 Z) Z (A3 (A8 Z) Z (A3 (D2 Z Z Z) Z (E1 (B7 TySz.out Z Z Z Z Z Z) (A3 (A6 Z Z) Z (A7 ?_)))))))
 refine k1 (k10 ?_)
 exact B8 (rs:=[pTable ⟨p,X2 names f0 (ms,g) (f0.length+1)⟩,F0 0]) (Q3 rfl rfl rfl rfl rfl rfl rfl) rfl
abbrev iS (i:Int):S1:=.one (.p (.v (.int .i64 i)))
set_option maxHeartbeats 1000000
theorem gD {s:Str} {i:Nat} (h:i < s.length):s[i]?=some (s.getD i 0):=by simp [h]
def C84 (s:Str) (i:Nat):Bool:=decide ((i < s.length∧48≤(s.getD i 0).toNat)∧(s.getD i 0).toNat≤57)
theorem I03 (s:Str) (i:Nat):C84 s i=match s[i]? with | some c=>a6 c | none=>false:=by
 unfold C84 a6
 by_cases h:i < s.length
 ·rw [gD h];simp [h]
 ·rw [K79 (by omega)];simp [h]
theorem digs_le (s:Str) (i:Nat):(L4 (s.drop i)).length≤s.length - i:=by
 unfold L4
 have:=(List.takeWhile_sublist a6 (l:=s.drop i)).length_le
 rw [K65] at this;exact this
theorem A92 {p:UInt8→Bool}:∀(s:Str) (k:Nat),k≤(s.takeWhile p).length→(match s[k]? with | some c=>p c | none=>false)=decide (k < (s.takeWhile p).length)
 | [],k,h=>by simp at h ⊢
 | c::r,0,h=>by by_cases hc:p c=true<;>simp [List.takeWhile_cons,hc]
 | c::r,k+1,h=>by
  by_cases hc:p c=true
  ·rw [List.takeWhile_cons,if_pos hc,K58] at h ⊢
   have:=A92 (p:=p) r k (by omega)
   rw [List.getElem?_cons_succ,this];simp
  ·rw [List.takeWhile_cons,if_neg hc] at h;simp at h
theorem C15 {p:UInt8→Bool}:∀(s:Str) (k:Nat),k < (s.takeWhile p).length→s[k]?=(s.takeWhile p)[k]?
 | [],k,h=>by simp at h
 | c::r,k,h=>by
  by_cases hc:p c=true
  ·rw [List.takeWhile_cons,if_pos hc] at h ⊢
   cases k with
   | zero=>rfl
   | succ k=>rw [List.getElem?_cons_succ,List.getElem?_cons_succ];exact C15 (p:=p) r k (by simpa using h)
  ·rw [List.takeWhile_cons,if_neg hc] at h;simp at h
theorem F64 (s:Str) (i k:Nat) (h:k≤(L4 (s.drop i)).length):C84 s (i+k)=decide (k < (L4 (s.drop i)).length):=by
 rw [I03,←K83]
 exact A92 (s.drop i) k h
theorem J05 {s:Str} {i k:Nat} (h:k < (L4 (s.drop i)).length):s[i+k]?=some ((L4 (s.drop i)).getD k 0)∧48≤((L4 (s.drop i)).getD k 0).toNat∧((L4 (s.drop i)).getD k 0).toNat≤57 ∧
  A38 ((L4 (s.drop i)).take (k+1))=10*A38 ((L4 (s.drop i)).take k)+(((L4 (s.drop i)).getD k 0).toNat - 48):=by
 have h1:s[i+k]?=(L4 (s.drop i))[k]?:=by rw [←K83];exact C15 _ _ h
 have h2:=gD h
 have h3:a6 ((L4 (s.drop i)).getD k 0)=true:=by
  have hm:(L4 (s.drop i)).getD k 0∈(s.drop i).takeWhile a6:=K75 h2
  exact List.all_eq_true.1 List.all_takeWhile _ hm
 unfold a6 at h3
 have h3:=A0 h3
 refine ⟨by rw [h1,h2],h3.1,h3.2,?_⟩
 obtain ⟨hl,he⟩:=List.getElem?_eq_some_iff.1 h2
 rw [K67 hl,F90,he]
theorem H05 (n:Nat) (h:48≤n) (h2:n≤57):IntKind.i64.wrap (IntKind.u8.wrap ((n:Int) - 48))=((n - 48:Nat):Int):=by
 have:∀k:Fin 10,IntKind.i64.wrap (IntKind.u8.wrap (((k.1+48:Nat):Int) - 48))=((k.1:Nat):Int):=by decide
 have h3:=this ⟨n - 48,by omega⟩
 dsimp only at h3
 rw [show n - 48+48=n by omega] at h3
 exact h3
def G36 (s:Str) (i:Nat):List PV:=match b9 (s.drop i) with
 | none=>[F0 0,F0 0,E8 false]
 | some (n,k)=>[F0 n,F0 ((i+k:Nat):Int),E8 true]
theorem F65 {s:Str} {n k:Nat} (h:b9 s=some (n,k)):k=(L4 s).length∧n=A38 (L4 s)∧0 < k∧k≤s.length∧n≤2147483647:=by
 unfold b9 at h
 split at h
 ·cases h
 ·rename_i h1
  cases h
  have h2:L4 s≠[]:=fun e=>h1 (.inl e)
  have h3:=List.length_pos_iff.2 h2
  have h4:(L4 s).length≤s.length:=by unfold L4;exact (List.takeWhile_sublist a6).length_le
  refine ⟨rfl,rfl,h3,h4,?_⟩
  by_cases hv:A38 (L4 s)≤2147483647
  ·exact hv
  ·exact absurd (.inr (.inr (by omega))) h1
theorem F66 (s:Str) (i:Nat):FnOk Tryz.prog 257 [G7 s,F0 i] (fun rs=>rs=[E8 (C84 s i)]):=by
 refine FnOk.intro Tryz.func257 (by decide) Z Z Z Z ?_
 refine k2 ?_
 refine A4 (A3 (A6 Z Z) Z (A7 ?_))
 refine k1 (k2 ?_)
 refine A4 (A3 (A5 Z Z) Z (A3 (A5 Z Z) Z (A3 (E3 Z) Z (A3 (E5 Z Z) Z (A3 (A5 Z Z) Z (B0 Z Z Z Z (fun hg=>by rw [hg];exact A5 Z Z) ?_))))));refine B0 Z Z Z Z (fun hg=>by rw [hg];exact A5 Z Z) ?_;refine B0 Z Z Z Z (fun hg=>by have hq:=hg;(try simp at hq);rw [hg];exact L3 Z Z (by omega) (gD (by omega))) ?_;refine B0 Z Z Z Z (fun hg=>by rw [hg];exact s8 Z Z) ?_;refine A3 (B5 Z (fun h=>by first | rfl | (rw [h];rfl)) (fun h=>by first | rfl | (rw [h];rfl))) Z ?_;refine A3 (A5 Z Z) Z (B0 Z Z Z Z (fun hg=>by rw [hg];exact A5 Z Z) ?_);refine B0 Z Z Z Z (fun hg=>by rw [hg];exact A5 Z Z) ?_;refine B0 Z Z Z Z (fun hg=>by have hq:=hg;(try simp at hq);rw [hg];exact L3 Z Z (by omega) (gD (by omega))) ?_;refine B0 Z Z Z Z (fun hg=>by rw [hg];exact B19 Z Z) ?_;refine A3 (B5 Z (fun h=>by first | rfl | (rw [h];rfl)) (fun h=>by first | rfl | (rw [h];rfl))) Z ?_;refine A3 (A6 Z Z) Z (A7 ?_)
 refine k1 (k10 ?_)
 refine B8 (J6 Z Z Z) ?_
 simp only [K1]
 unfold C84
 congr 4
 congr 1
 simp;omega
theorem A93 (s:Str) (i:Nat) (hi:i≤s.length) (hs:s.length≤1073741824):FnOk Tryz.prog 223 [G7 s,F0 i] (fun rs=>rs=G36 s i):=by
 obtain ⟨ds,hds⟩:∃ds,ds=L4 (s.drop i):=⟨_,rfl⟩
 have hle:=digs_le s i
 have h0:=F64 s i 0 (Nat.zero_le _)
 rw [Nat.add_zero] at h0
 rw [←hds] at hle h0
 refine FnOk.intro Tryz.func223 (by decide) Z Z Z Z ?_
 refine k2 ?_
 refine A4 (A3 (A6 Z Z) Z (A3 (A6 Z Z) Z (A3 (A6 Z Z) Z (A7 ?_))))
 refine k1 (k2 (k2 ?_))
 refine A4 (A3 (A5 Z Z) Z (A3 (E5 Z Z) Z (A3 (A5 Z Z) Z (B0 Z Z Z Z (fun hg=>by rw [hg];exact A5 Z Z) ?_))));refine B0 Z Z Z Z (fun hg=>by rw [hg];exact A5 Z Z) ?_;refine B0 Z Z Z Z (fun hg=>by have hq:=hg;(try simp at hq);rw [hg];exact O0 (F66 s i) Z Z) ?_;refine B0 Z Z Z Z (fun hg=>by rw [hg];exact F7 Z) ?_;refine A3 (B5 Z (fun h=>by first | rfl | (rw [h];rfl)) (fun h=>by first | rfl | (rw [h];rfl))) Z ?_;refine A7 ?_
 rw [h0]
 refine k1 ?_
 by_cases hz:ds.length=0
 ·refine B4 rfl (fun ht=>?_) (fun ht=>?_)
  rotate_left
  ·exfalso;revert ht;simp [hz]
  refine k2 ?_
  refine A4 (A3 (A6 Z Z) Z (A3 (A6 Z Z) Z (A3 (A6 Z Z) Z (A7 ?_))))
  refine k1 (k10 (k11 ?_))
  refine B8 (rs:=[F0 0,F0 0,E8 false]) (ret3 Z Z Z Z Z Z Z) ?_
  unfold G36 b9
  rw [←hds,if_pos (.inl (List.length_eq_zero_iff.1 hz))]
 refine B4 rfl (fun ht=>?_) (fun ht=>?_)
 ·exfalso;revert ht;simp [show 0 < ds.length by omega]
 refine k5 (k1 (k2 ?_))
 refine A4 (A3 (A5 Z Z) Z (A3 (A6 Z Z) Z (A3 (A6 Z Z) Z (A7 ?_))))
 refine k1 (k2 (k3 ?_))
 refine E4 (X:=Nat) (fun k=>([(0,J0 s),(1,C2 i),(7,C2 ((min (A38 (ds.take k)) 2147483648:Nat):Int)),(8,C2 ((i+k:Nat):Int))],[])) (fun k=>k≤ds.length) (fun k=>ds.length - k) 0 (Nat.zero_le _) (K19 ⟨le1 rfl,le1 rfl,le1 rfl,le1 rfl,trivial⟩ trivial) ?_
 intro k hk
 dsimp only at hk ⊢
 have hrun:=F64 s i k (by rw [←hds];exact hk)
 rw [←hds] at hrun
 refine k2 (k2 ?_)
 refine A4 (A3 (A5 Z Z) Z (A3 (A5 Z Z) Z (B9 (F66 s (i+k)) Z Z Z ?_)));rintro _ rfl;refine A7 ?_
 rw [hrun]
 refine k1 ?_
 refine B4 rfl (fun ht=>?_) (fun ht=>?_)
 ·have hlt:k < ds.length:=A0 ht
  obtain ⟨g1,g2,g3,g4⟩:=J05 (s:=s) (i:=i) (k:=k) (by rw [←hds];exact hlt)
  rw [←hds] at g1 g2 g3 g4
  obtain ⟨c,hc⟩:∃c,c=ds.getD k 0:=⟨_,rfl⟩
  rw [←hc] at g1 g2 g3 g4
  obtain ⟨v,hv⟩:∃v,v=min (A38 (ds.take k)) 2147483648:=⟨_,rfl⟩
  have hvb:v≤2147483648:=by omega
  have hnew:min (A38 (ds.take (k+1))) 2147483648=min (10*v+(c.toNat - 48)) 2147483648:=by rw [g4];omega
  rw [←hv]
  have hsub:=H05 c.toNat g2 g3
  refine k5 (k1 (k2 (k3 ?_)))
  refine A4 (A3 (A5 Z Z) Z (A3 (B28 Z Z (by omega)) Z (A3 (A5 Z Z) Z (A3 (A5 Z Z) Z (A3 (L3 Z Z (by omega) g1) Z (A3 (G12 Z Z) Z (A3 (R9 Z) Z (A3 (C6 Z Z (by (rw [hsub];omega))) Z ?_))))))));refine A3 (G82 Z Z) Z (A3 (A6 Z Z) Z (A7 ?_))
  refine k4 (k1 ?_)
  refine A4 (A3 (A5 Z Z) Z (A3 (C6 Z Z (by omega)) Z (A3 (A6 Z Z) Z (A7 ?_))))
  refine k1 ?_
  refine ⟨k+1,hlt,by omega,?_⟩
  rw [hnew]
  refine K19 ⟨⟨_,rfl,.same _⟩,⟨_,rfl,.same _⟩,⟨_,rfl,.eq ?_⟩,⟨_,rfl,.eq ?_⟩,trivial⟩ trivial
  ·rw [hsub]
   congr 6
   split<;>omega
  ·congr 6
 ·have hk':k=ds.length:=by have:¬k < ds.length:=A1 ht;omega
  subst hk'
  rw [K87]
  have hv0:i < s.length:=by omega
  refine k6 (k2 (k2 ?_))
  refine A4 (A3 (A5 Z Z) Z (A3 (Q1 Z Z) Z (A3 (A5 Z Z) Z (B0 Z Z Z Z (fun hg=>by rw [hg];exact A5 Z Z) ?_))));refine B0 Z Z Z Z (fun hg=>by rw [hg];exact A5 Z Z) ?_;refine B0 Z Z Z Z (fun hg=>by have hq:=hg;(try simp at hq);rw [hg];exact L3 Z Z (by omega) (gD hv0)) ?_;refine B0 Z Z Z Z (fun hg=>by rw [hg];exact J3 Z Z) ?_;refine B0 Z Z Z Z (fun hg=>by rw [hg];exact A5 Z Z) ?_;refine J4 Z Z Z (.gd (.val _)) Z (fun hg=>by obtain ⟨hg1,hg2⟩:=N4 hg;(try rw [hg1]);(try rw [hg2]);exact A5 Z Z) ?_;refine J4 Z Z Z (.gd (.val _)) Z (fun hg=>by obtain ⟨hg1,hg2⟩:=N4 hg;(try rw [hg1]);(try rw [hg2]);exact A5 Z Z) ?_;refine J4 Z Z Z (.gd (.val _)) Z (fun hg=>by have hq:=hg;(try simp at hq);obtain ⟨hg1,hg2⟩:=N4 hg;(try rw [hg1]);(try rw [hg2]);exact C6 Z Z (by omega)) ?_;refine J4 Z Z Z (.gd (.val _)) Z (fun hg=>by obtain ⟨hg1,hg2⟩:=N4 hg;(try rw [hg1]);(try rw [hg2]);exact Q1 Z Z) ?_;refine B0 Z Z Z Z (fun hg=>by rw [hg];exact B5 Z (fun h=>by first | rfl | (rw [h];rfl)) (fun h=>by first | rfl | (rw [h];rfl))) ?_;refine A3 (B5 Z (fun h=>by first | rfl | (rw [h];rfl)) (fun h=>by first | rfl | (rw [h];rfl))) Z ?_;refine A7 ?_
  refine k1 ?_
  have hd0:(s.drop i).head?=some (s.getD i 0):=by rw [List.head?_drop,gD hv0]
  simp only [K1,or_pick]
  have hbad:(L4 (s.drop i)=[]∨((s.drop i).head?=some 48∧1 < (L4 (s.drop i)).length)∨2147483647 < A38 (L4 (s.drop i)))↔(2147483647 < ((min (A38 ds) 2147483648:Nat):Int)∨(((s.getD i 0).toNat:Int)=48∧(i:Int)+1 < ((i+ds.length:Nat):Int))):=by
   rw [←hds,hd0]
   have e1:ds≠[]:=fun e=>hz (by rw [e];rfl)
   have e2:(some (s.getD i 0)=some 48)↔((s.getD i 0).toNat:Int)=48:=by
    rw [Option.some.injEq,←UInt8.toNat_inj]
    have:(48:UInt8).toNat=48:=rfl
    omega
   simp only [e1,false_or,e2]
   omega
  refine B4 rfl (fun ht=>?_) (fun ht=>?_)
  ·have h1:=A0 ht
   refine k2 ?_
   refine A4 (A3 (A6 Z Z) Z (A3 (A6 Z Z) Z (A3 (A6 Z Z) Z (A7 ?_))))
   refine k1 (k10 (k11 ?_))
   refine B8 (rs:=[F0 0,F0 0,E8 false]) (ret3 Z Z Z Z Z Z Z) ?_
   unfold G36 b9
   rw [if_pos (hbad.2 (by first | exact h1 | simpa using h1))]
  ·have h1:=A1 ht
   have h2:¬(L4 (s.drop i)=[]∨((s.drop i).head?=some 48∧1 < (L4 (s.drop i)).length)∨2147483647 < A38 (L4 (s.drop i))):=fun hh=>h1 (by first | exact hbad.1 hh | simpa using hbad.1 hh)
   refine k5 (k1 (k2 ?_))
   refine A4 (A3 (A5 Z Z) Z (A3 (A5 Z Z) Z (A3 (A6 Z Z) Z (A3 (A6 Z Z) Z (A3 (A6 Z Z) Z (A7 ?_))))))
   refine k1 (k10 ?_)
   refine B8 (rs:=[F0 ((min (A38 ds) 2147483648:Nat):Int),F0 ((i+ds.length:Nat):Int),E8 true]) (ret3 Z Z Z Z Z Z Z) ?_
   unfold G36 b9
   rw [if_neg h2,←hds]
   have h3:A38 ds≤2147483647:=by
    rw [←hds] at h2
    by_cases hv:A38 ds≤2147483647
    ·exact hv
    ·exact absurd (.inr (.inr (by omega))) h2
   rw [show min (A38 ds) 2147483648=A38 ds by omega]
def G37 (s:Str) (i:Nat):List PV:=match s9 (s.drop i) with
 | none=>[F0 0,F0 0,F0 0,E8 false]
 | some (a,n,k)=>[F0 a,F0 n,F0 ((i+k:Nat):Int),E8 true]
theorem D28 {s:Str} {i n k:Nat} (h:b9 (s.drop i)=some (n,k)):G36 s i=[F0 n,F0 ((i+k:Nat):Int),E8 true]:=by unfold G36;rw [h]
theorem D29 {s:Str} {i:Nat} (h:b9 (s.drop i)=none):G36 s i=[F0 0,F0 0,E8 false]:=by unfold G36;rw [h]
theorem F67 (s:Str) (i:Nat) (hi:i≤s.length) (hs:s.length≤1073741824):FnOk Tryz.prog 258 [G7 s,F0 i] (fun rs=>rs=G37 s i):=by
 have hc:=A93 s i hi hs
 cases h1:b9 (s.drop i) with
 | none =>
  rw [D29 h1] at hc
  refine FnOk.intro Tryz.func258 (by decide) Z Z Z Z ?_
  refine k2 ?_
  refine A4 (A3 (A6 Z Z) Z (A3 (A6 Z Z) Z (A3 (A6 Z Z) Z (A3 (A6 Z Z) Z (A7 ?_)))))
  refine k1 (k2 ?_)
  refine A4 (A3 (A5 Z Z) Z (A3 (A5 Z Z) Z (B9 (hc) Z Z Z ?_)));rintro _ rfl;refine A3 (A5 Z Z) Z (A3 (B3 Z Z) Z (A3 (B3 Z Z) Z (A3 (B3 Z Z) Z (A3 (A6 Z Z) Z (A3 (A6 Z Z) Z (A3 (A6 Z Z) Z (A7 ?_)))))))
  refine k1 (k2 (k2 ?_))
  refine A4 (A3 (A5 Z Z) Z (A3 (F7 Z) Z (A7 ?_)))
  refine k1 ?_
  refine B4 rfl (fun ht=>?_) (fun ht=>?_)
  ·refine k2 ?_
   refine A4 (A3 (A6 Z Z) Z (A3 (A6 Z Z) Z (A3 (A6 Z Z) Z (A3 (A6 Z Z) Z (A7 ?_)))))
   refine k1 (k10 (k11 ?_))
   exact B8 (ret4 rfl rfl rfl rfl rfl rfl rfl rfl rfl) (by unfold G37 s9;rw [h1])
  ·cases ht
 | some p =>
  obtain ⟨a,k⟩:=p
  rw [D28 h1] at hc
  obtain ⟨_,_,hk0,hk1,ha⟩:=F65 h1
  rw [K65] at hk1
  have hget:(s.drop i)[k]?=s[i+k]?:=by rw [K83]
  have hdd:(s.drop i).drop (k+1)=s.drop (i+k+1):=by rw [List.drop_drop];rfl
  have hcm2:decide (((i+k:Nat):Int) < (s.length:Int)∧((s.getD (i+k) 0).toNat:Int)=44)=decide (s[i+k]?=some 44):=by
   have:(44:UInt8).toNat=44:=rfl
   congr 1
   by_cases hlt:i+k < s.length
   ·rw [gD hlt,Option.some.injEq,←UInt8.toNat_inj]
    apply propext;constructor<;>intro h<;>omega
   ·rw [K79 (by omega)]
    apply propext;constructor<;>intro h
    ·omega
    ·cases h
  have hcase:(s[i+k]?=some 44∧b9 (s.drop (i+k+1))=none)∨(∃c e,((∃kb,s[i+k]?=some 44∧b9 (s.drop (i+k+1))=some (c,kb)∧e=k+1+kb)∨(s[i+k]?≠some 44∧c=1∧e=k))∧i+e≤s.length∧c≤2147483647∧s9 (s.drop i)=D44 (s.drop i) a c e):=by
   by_cases hcm:s[i+k]?=some 44
   ·have hlt:=(List.getElem?_eq_some_iff.1 hcm).1
    cases h2:b9 (s.drop (i+k+1)) with
    | none=>exact .inl ⟨hcm,rfl⟩
    | some q =>
     obtain ⟨c,kb⟩:=q
     obtain ⟨_,_,hk2,hk3,hc2⟩:=F65 h2
     rw [K65] at hk3
     refine .inr ⟨c,k+1+kb,.inl ⟨kb,hcm,rfl,rfl⟩,by omega,hc2,?_⟩
     unfold s9
     rw [h1];dsimp only
     rw [hget,if_pos hcm,hdd,h2]
   ·refine .inr ⟨1,k,.inr ⟨hcm,rfl,rfl⟩,by omega,by omega,?_⟩
    unfold s9
    rw [h1];dsimp only
    rw [hget,if_neg hcm]
  rcases hcase with ⟨hcm,h2⟩ | ⟨c,e,hce,hel,hcb,hfin⟩
  ·have hlt:=(List.getElem?_eq_some_iff.1 hcm).1
   have hc2:=A93 s (i+k+1) (by omega) hs
   rw [D29 h2,show ((i+k+1:Nat):Int)=((i+k:Nat):Int)+1 by omega] at hc2
   refine FnOk.intro Tryz.func258 (by decide) Z Z Z Z ?_
   refine k2 ?_
   refine A4 (A3 (A6 Z Z) Z (A3 (A6 Z Z) Z (A3 (A6 Z Z) Z (A3 (A6 Z Z) Z (A7 ?_)))))
   refine k1 (k2 ?_)
   refine A4 (A3 (A5 Z Z) Z (A3 (A5 Z Z) Z (B9 (hc) Z Z Z ?_)));rintro _ rfl;refine A3 (A5 Z Z) Z (A3 (B3 Z Z) Z (A3 (B3 Z Z) Z (A3 (B3 Z Z) Z (A3 (A6 Z Z) Z (A3 (A6 Z Z) Z (A3 (A6 Z Z) Z (A7 ?_)))))))
   refine k1 (k2 (k2 ?_))
   refine A4 (A3 (A5 Z Z) Z (A3 (F7 Z) Z (A7 ?_)))
   refine k1 ?_
   refine B4 rfl (fun ht=>?_) (fun ht=>?_)
   ·cases ht
   refine k5 (k1 (k2 ?_))
   refine A4 (A3 (A6 Z Z) Z (A7 ?_))
   refine k1 (k2 (k2 ?_))
   refine A4 (A3 (A5 Z Z) Z (A3 (A5 Z Z) Z (A3 (E3 Z) Z (A3 (E5 Z Z) Z (A3 (A5 Z Z) Z (B0 Z Z Z Z (fun hg=>by rw [hg];exact A5 Z Z) ?_))))));refine B0 Z Z Z Z (fun hg=>by rw [hg];exact A5 Z Z) ?_;refine B0 Z Z Z Z (fun hg=>by have hq:=hg;(try simp at hq);rw [hg];exact L3 Z Z (by omega) (gD (by omega))) ?_;refine B0 Z Z Z Z (fun hg=>by rw [hg];exact J3 Z Z) ?_;refine A3 (B5 Z (fun h=>by first | rfl | (rw [h];rfl)) (fun h=>by first | rfl | (rw [h];rfl))) Z ?_;refine A7 ?_
   simp only [K1,K62]
   rw [hcm2]
   refine k1 ?_
   refine B4 rfl (fun ht=>?_) (fun ht=>?_)
   ·refine k2 ?_
    refine A4 (A3 (A5 Z Z) Z (A3 (A5 Z Z) Z (A3 (C6 Z Z (by omega)) Z (B9 (hc2) Z Z Z ?_))));rintro _ rfl;refine A3 (A5 Z Z) Z (A3 (B3 Z Z) Z (A3 (B3 Z Z) Z (A3 (B3 Z Z) Z (A3 (A6 Z Z) Z (A3 (A6 Z Z) Z (A3 (A6 Z Z) Z (A7 ?_)))))))
    refine k1 (k2 ?_)
    refine A4 (A3 (A5 Z Z) Z (A3 (F7 Z) Z (A7 ?_)))
    refine k1 ?_
    refine B4 rfl (fun ht=>?_) (fun ht=>?_)
    ·refine k2 ?_
     refine A4 (A3 (A6 Z Z) Z (A3 (A6 Z Z) Z (A3 (A6 Z Z) Z (A3 (A6 Z Z) Z (A7 ?_)))))
     refine k1 (k10 (k11 ?_))
     refine B8 (rs:=[F0 0,F0 0,F0 0,E8 false]) (ret4 Z Z Z Z Z Z Z Z Z) ?_
     unfold G37 s9
     rw [h1];dsimp only
     rw [hget,if_pos hcm,hdd,h2]
    ·cases ht
   ·exact absurd hcm (A1 ht)
  ·obtain ⟨st,hst⟩:∃st:Int,st=if 0 < c then (a:Int) - 1 else a:=⟨_,rfl⟩
   have hstb:-1≤st∧st≤2147483647:=by rw [hst];split<;>omega
   have hrc:=D24 st c (by omega) (by omega)
   refine FnOk.intro Tryz.func258 (by decide) Z Z Z Z ?_
   refine k2 ?_
   refine A4 (A3 (A6 Z Z) Z (A3 (A6 Z Z) Z (A3 (A6 Z Z) Z (A3 (A6 Z Z) Z (A7 ?_)))))
   refine k1 (k2 ?_)
   refine A4 (A3 (A5 Z Z) Z (A3 (A5 Z Z) Z (B9 (hc) Z Z Z ?_)));rintro _ rfl;refine A3 (A5 Z Z) Z (A3 (B3 Z Z) Z (A3 (B3 Z Z) Z (A3 (B3 Z Z) Z (A3 (A6 Z Z) Z (A3 (A6 Z Z) Z (A3 (A6 Z Z) Z (A7 ?_)))))))
   refine k1 (k2 (k2 ?_))
   refine A4 (A3 (A5 Z Z) Z (A3 (F7 Z) Z (A7 ?_)))
   refine k1 ?_
   refine B4 rfl (fun ht=>?_) (fun ht=>?_)
   ·cases ht
   refine k5 (k1 (k2 ?_))
   refine A4 (A3 (A6 Z Z) Z (A7 ?_))
   refine J9 ?_
   refine u7 [(0,J0 s),(1,C2 i),(8,C2 a),(9,C2 ((i+e:Nat):Int)),(11,C2 c)] [] ?_ ?_
   ·refine k2 ?_
    refine A4 (A3 (A5 Z Z) Z (A3 (A5 Z Z) Z (A3 (E3 Z) Z (A3 (E5 Z Z) Z (A3 (A5 Z Z) Z (B0 Z Z Z Z (fun hg=>by rw [hg];exact A5 Z Z) ?_))))));refine B0 Z Z Z Z (fun hg=>by rw [hg];exact A5 Z Z) ?_;refine B0 Z Z Z Z (fun hg=>by have hq:=hg;(try simp at hq);rw [hg];exact L3 Z Z (by omega) (gD (by omega))) ?_;refine B0 Z Z Z Z (fun hg=>by rw [hg];exact J3 Z Z) ?_;refine A3 (B5 Z (fun h=>by first | rfl | (rw [h];rfl)) (fun h=>by first | rfl | (rw [h];rfl))) Z ?_;refine A7 ?_
    simp only [K1,K62]
    rw [hcm2]
    refine k1 ?_
    refine B4 rfl (fun ht=>?_) (fun ht=>?_)
    ·have hcm:=A0 ht
     have hlt:=(List.getElem?_eq_some_iff.1 hcm).1
     rcases hce with ⟨kb,_,h2,he⟩ | ⟨hn,_⟩
     ·have hc2:=A93 s (i+k+1) (by omega) hs
      rw [D28 h2,show ((i+k+1:Nat):Int)=((i+k:Nat):Int)+1 by omega,show i+k+1+kb=i+e by omega] at hc2
      refine k2 ?_
      refine A4 (A3 (A5 Z Z) Z (A3 (A5 Z Z) Z (A3 (C6 Z Z (by omega)) Z (B9 (hc2) Z Z Z ?_))));rintro _ rfl;refine A3 (A5 Z Z) Z (A3 (B3 Z Z) Z (A3 (B3 Z Z) Z (A3 (B3 Z Z) Z (A3 (A6 Z Z) Z (A3 (A6 Z Z) Z (A3 (A6 Z Z) Z (A7 ?_)))))))
      refine k1 (k2 ?_)
      refine A4 (A3 (A5 Z Z) Z (A3 (F7 Z) Z (A7 ?_)))
      refine k1 ?_
      refine B4 rfl (fun ht=>?_) (fun ht=>?_)
      ·cases ht
      refine k5 (k1 ?_)
      exact K19 ⟨le1 rfl,le1 rfl,le1 rfl,le1 rfl,le1 rfl,trivial⟩ trivial
     ·exact absurd hcm hn
    ·have hcm:=A1 ht
     rcases hce with ⟨kb,h3,_⟩ | ⟨_,h2,h3⟩
     ·exact absurd h3 hcm
     ·subst h2;subst h3
      refine k5 (k1 ?_)
      exact K19 ⟨le1 rfl,le1 rfl,le1 rfl,le1 rfl,le1 rfl,trivial⟩ trivial
   refine u7 [(0,J0 s),(1,C2 i),(8,C2 st),(9,C2 ((i+e:Nat):Int)),(11,C2 c)] [] ?_ ?_
   ·refine k2 ?_
    refine A4 (A3 (A5 Z Z) Z (A3 (Q1 Z Z) Z (A7 ?_)))
    refine k1 ?_
    refine B4 rfl (fun ht=>?_) (fun ht=>?_)
    ·have h3:(0:Int) < (c:Int):=A0 ht
     rw [if_pos (by omega)] at hst
     skip
     refine A4 (A3 (A5 Z Z) Z (A3 (S6 Z Z (by omega)) Z (A3 (A6 Z Z) Z (A7 ?_))))
     rw [←hst]
     refine k1 ?_
     exact K19 ⟨le1 rfl,le1 rfl,le1 rfl,le1 rfl,le1 rfl,trivial⟩ trivial
    ·have h3:¬(0:Int) < (c:Int):=A1 ht
     rw [if_neg (by omega)] at hst
     rw [hst]
     refine k5 (k1 ?_)
     exact K19 ⟨le1 rfl,le1 rfl,le1 rfl,le1 rfl,le1 rfl,trivial⟩ trivial
   unfold D44 at hfin
   rw [←hst] at hfin
   refine k2 (k2 ?_)
   refine D7 (by kernel_rfl) (by kernel_rfl) (B1 (A5 Z Z) Z Z (B1 (A5 Z Z) Z Z (B1 (O0 (hrc) Z Z) Z Z (B1 (A5 Z Z) Z Z (B1 (A5 Z Z) Z Z (B1 (A5 Z Z) Z Z (B1 (C61 Z Z Z (by omega) (by omega) (by omega)) Z Z (B1 (A78 Z Z) Z Z (M2 ?_)))))))))
   rw [show ((i:Int)).toNat=i by omega,show (((i+e:Nat):Int)).toNat - i=e by omega]
   refine k1 ?_
   refine B4 rfl (fun ht=>?_) (fun ht=>?_)
   ·have h3:¬I7 st c=(s.drop i).take e:=A0 ht
    refine k2 ?_
    refine A4 (A3 (A6 Z Z) Z (A3 (A6 Z Z) Z (A3 (A6 Z Z) Z (A3 (A6 Z Z) Z (A7 ?_)))))
    refine k1 (k10 (k11 ?_))
    refine B8 (rs:=[F0 0,F0 0,F0 0,E8 false]) (ret4 Z Z Z Z Z Z Z Z Z) ?_
    rw [if_neg h3] at hfin
    unfold G37;rw [hfin]
   ·have h3:I7 st c=(s.drop i).take e:=Decidable.not_not.1 (A1 ht)
    refine k5 (k1 (k2 ?_))
    refine A4 (A3 (A5 Z Z) Z (A3 (A5 Z Z) Z (A3 (A5 Z Z) Z (A3 (A6 Z Z) Z (A3 (A6 Z Z) Z (A3 (A6 Z Z) Z (A3 (A6 Z Z) Z (A7 ?_))))))))
    refine k1 (k10 ?_)
    refine B8 (rs:=[F0 st,F0 c,F0 ((i+e:Nat):Int),E8 true]) (ret4 Z Z Z Z Z Z Z Z Z) ?_
    rw [if_pos h3] at hfin
    unfold G37;rw [hfin]
end Go.Proofs.YtbiadkkamhpdnaaGreatDoor
