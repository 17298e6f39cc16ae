/- Walks of the program's functions. -/
import Derived.Test.YtgejaedjnbjpoaaGreatDoorFc
import Derived.Test.YtgejaedjnbjpoaaGreatDoorFs
import Derived.Test.YtgejaedjnbjpoaaGreatDoorFb
import Derived.Test.YtgejaedjnbjpoaaGreatDoorFa
namespace Go.Proofs.YtgejaedjnbjpoaaGreatDoor
open Go Go.AL
set_option maxRecDepth 100000
set_option maxHeartbeats 1000000
theorem tid_old {gf:Fr} {ob:Obs} (names:List Str) (s:Str) (hs:s∈names) (h0:C2 ob 710=some (.box [.mut 711,.buf 712 Str 1 J9 names])) (h1:C2 ob 711=some (.map Str A85 (u7 names 0))) :
  AL.Met Tryz.prog 198 [.one (.ref 710 0),.one (.p (.v (.string ⟨s.toArray⟩)))] gf ob [] (fun rs ob'=>rs=[.one (.p (.v (.int .i64 (H7 names s 0))))]∧ob'=ob):=by
 have hg:=E39 s names 0 hs
 refine AL.Met.intro Tryz.func198 (by decide) Z Z Z ?_
 refine k2 ?_
 refine A3 (A2 (A5 Z Z) Z (A6 ?_))
 refine k1 (k2 ?_)
 refine A3 (A2 (A4 Z Z) Z (A2 (D3 Z) Z (A2 (A7 Z) Z (A2 (A8 Z h0 Z) Z (A2 (A4 Z Z) Z (A2 (F15 (s) (r:=some (.v (.int .i64 (H7 names s 0)))) Z h1 Z D12 D13 (hg)) Z (A2 (A4 Z Z) Z (A2 (D5 Z Z) Z (A2 (D5 Z Z) Z (A2 (A5 Z Z) Z (A2 (A5 Z Z) Z (A6 ?_))))))))))))
 refine k1 (k2 (k2 ?_))
 refine A3 (A2 (A4 Z Z) Z (A2 (K9 Z) Z (A6 ?_)))
 refine k1 ?_
 refine B4 rfl (fun ht=>?_) (fun ht=>?_)
 ·cases ht
 refine k5 (k1 (k2 ?_))
 refine A3 (A2 (A4 Z Z) Z (A2 (A5 Z Z) Z (A6 ?_)))
 refine k1 (k10 ?_)
 exact l9 (B83 rfl rfl) (by repeat (first | exact H4 | refine H5 rfl ?_ | refine O8 _ ?_)) (fun _ _ h=>h) ⟨rfl,rfl⟩
theorem tid_new {gf:Fr} {ob:Obs} (names:List Str) (s:Str) (hs:s∉names) (hl:names.length≤1073741823) (h0:C2 ob 710=some (.box [.mut 711,.buf 712 Str 1 J9 names])) (h1:C2 ob 711=some (.map Str A85 (u7 names 0)))
  (h2:C2 ob 712=some (.spare names.length 1 9)) :
  AL.Met Tryz.prog 198 [.one (.ref 710 0),.one (.p (.v (.string ⟨s.toArray⟩)))] gf ob [712] (fun rs ob'=>rs=[.one (.p (.v (.int .i64 names.length)))]∧ob'=(710,.box [.mut 711,.buf 712 Str 1 J9 (names++[s])])::(712,.spare (names++[s]).length 1 9)::Obs.forget 712 ((711,.map Str A85 (u7 names 0++[(s,.v (.int .i64 names.length))]))::ob)):=by
 have hg:=D56 s names 0 hs
 refine AL.Met.intro Tryz.func198 (by decide) Z Z Z ?_
 refine k2 ?_
 refine A3 (A2 (A5 Z Z) Z (A6 ?_))
 refine k1 (k2 ?_)
 refine A3 (A2 (A4 Z Z) Z (A2 (D3 Z) Z (A2 (A7 Z) Z (A2 (A8 Z h0 Z) Z (A2 (A4 Z Z) Z (A2 (F15 (s) (r:=none) Z h1 Z D12 D13 (hg)) Z (A2 (A4 Z Z) Z (A2 (D5 Z Z) Z (A2 (D5 Z Z) Z (A2 (A5 Z Z) Z (A2 (A5 Z Z) Z (A6 ?_))))))))))))
 refine k1 (k2 (k2 ?_))
 refine A3 (A2 (A4 Z Z) Z (A2 (K9 Z) Z (A6 ?_)))
 refine k1 ?_
 refine B4 rfl (fun ht=>?_) (fun ht=>?_)
 ·refine k2 ?_
  refine A3 (A2 (A4 Z Z) Z (A2 (D3 Z) Z (A2 (A7 Z) Z (A2 (A8 Z h0 Z) Z (A2 (D4 Z (.buf _ _ _ _ _)) Z (A2 (A5 Z Z) Z (A6 ?_)))))))
  refine k1 (k2 ?_)
  refine A3 (A2 (A4 Z Z) Z (A2 (D3 Z) Z (A2 (A7 Z) Z (A2 (A8 Z h0 Z) Z (A2 (A4 Z Z) Z (A2 (A4 Z Z) Z (F6 (H34 (s) Z h1 Z Z Z D12 D13 (hg)) (A6 ?_))))))))
  refine k1 ?_
  have h0':C2 ((711,Ob.map Str A85 (u7 names 0++[(s,.v (.int .i64 names.length))]))::ob) 710=some (.box [.mut 711,.buf 712 Str 1 J9 names]):=by rw [B3 (by decide)];exact h0
  have h2':C2 ((711,Ob.map Str A85 (u7 names 0++[(s,.v (.int .i64 names.length))]))::ob) 712=some (.spare names.length 1 9):=by rw [B3 (by decide)];exact h2
  have h0'':C2 ((712,Ob.spare (names++[s]).length 1 9)::Obs.forget 712 ((711,Ob.map Str A85 (u7 names 0++[(s,.v (.int .i64 names.length))]))::ob)) 710=some (.box [.mut 711,.p (.list Str 1 J9 names)]):=by
   rw [B3 (by decide),O6,h0'];rfl
  refine A3 (A2 (A4 Z Z) Z (A2 (A4 Z Z) Z (A2 (D3 Z) Z (A2 (A7 Z) Z (A2 (A8 Z h0' Z) Z (A2 (A4 Z Z) Z (A2 (C8 (c:=J9) (ys:=[s]) (D7 Z Z Z Z E7) Z Z Z) Z (C1 (F3 Z h2' Z (.pure _ _ _ _) (by (simp only [H96,H98];omega)) Z) Z (A2 (D3 Z) Z (A2 (A7 Z) Z (F6 (B8 TySz.out Z h0'' Z Z Z Z) (A6 ?_))))))))))))
  refine k1 (k2 ?_)
  refine A3 (A2 (A4 Z Z) Z (A2 (A5 Z Z) Z (A6 ?_)))
  refine k1 (k10 ?_)
  exact l9 (B83 rfl rfl) (by repeat (first | exact H4 | refine H5 rfl ?_ | refine O8 _ ?_)) (fun _ _ h=>h) ⟨rfl,rfl⟩
 ·cases ht
theorem F98 (files:List (List Str)) (i m:Nat):(N8 files i).all (TC.free m)=true:=by
 rw [List.all_eq_true]
 intro t ht
 unfold N8 at ht
 obtain ⟨r,_,rfl⟩:=List.mem_map.1 ht
 split<;>rfl
theorem G96 {files:List (List Str)} {i:Nat} (b x:TC) (m:Nat):(((N8 files i).set i b).map (TC.forget m)).set i x=(N8 files i).set i x:=by
 have e1:(N8 files i).map (TC.forget m)=N8 files i:=by
  unfold N8
  rw [I32]
  apply List.map_congr_left
  intro r _
  simp only [Function.comp]
  split<;>rfl
 rw [List.map_set,e1,List.set_set]
theorem F99 {files:List (List Str)} {i:Nat} (b x:TC) (m m':Nat):((((N8 files i).set i b).map (TC.forget m)).map (TC.forget m')).set i x=(N8 files i).set i x:=by
 have e1:∀m,(N8 files i).map (TC.forget m)=N8 files i:=by
  intro m
  unfold N8
  rw [I32]
  apply List.map_congr_left
  intro r _
  simp only [Function.comp]
  split<;>rfl
 rw [List.map_set,e1,List.map_set,e1,List.set_set]
theorem E22 (files:List (List Str)) (hn:files.length≤1048576) (hl:files.flatten.length≤536870911):FnOk Tryz.prog 131 [pStrss files] (fun rs=>rs=[pIntss (files.map (K3 (E1 files))),t6 (E1 files)]):=by
 refine FnOk.intro Tryz.func131 (by decide) Z Z Z Z ?_
 refine k2 ?_
 refine A3 (A2 (A5 Z Z) Z (A2 (A5 Z Z) Z (A6 ?_)))
 refine k1 (k2 ?_)
 refine A3 (C1 (G81 711 Str A85 Z) Z (A2 (G6 Z) Z (C1 (Q4 710 Z Z Z) Z (A2 (A5 Z Z) Z (A6 ?_)))))
 refine k1 (k2 ?_)
 refine G4 (H68 712 Str 1 J9 9 (kb:=710) (o:=1) Z Z Z) ?_
 refine A3 (A2 (A4 Z Z) Z (A2 (D4 Z (.pure _ _ _ _)) Z (C1 (V3 20 Unit (fun _ _=>.v (.slice none 0 0)) () Z Z (by omega) (by omega) (fun _=>by first | exact ⟨⟨rfl,rfl⟩,trivial⟩ | exact ⟨M9 _ _ _,trivial⟩) (by first | rfl | (simp [F9,H0,Ob.free,SV.free,S1.free,TC.free]<;>rfl))) Z ?_)));refine A2 (A5 Z Z) Z (A6 ?_)
 refine k1 (k2 (k2 ?_))
 refine G4 (H77 20 Z) ?_
 have hz:((List.replicate ((files.length:Nat):Int).toNat ()).map fun x=>TC.p ((fun (_:Unit) (_:Nat)=>Cell.v (.slice none 0 0)) x 0))=N8 files 0:=by
  rw [I03,←G30];simp
 have hz2:(List.replicate ((files.length:Nat):Int).toNat ()).length=files.length:=by simp
 rw [hz,hz2]
 refine A3 (A2 (A4 Z Z) Z (A2 (D4 Z (.pure _ _ _ _)) Z (A2 (A4 Z Z) Z (A6 ?_))))
 refine k1 (k3 ?_)
 refine C9 (X:=Nat) (fun i=>([(4,.s (.one (.ref 710 0))),(5,.s (.one (.mut 20))),(16,C0 (List Str) 1 strsC files),(17,B7 files.length),(18,B7 i)],[(710,.box [.mut 711,.buf 712 Str 1 J9 (M4 files i 0)]),(711,.map Str A85 (u7 (M4 files i 0) 0)),(712,.spare (M4 files i 0).length 1 9),(20,.tarr files.length 1 (N8 files i))])) (fun i=>i≤files.length) (fun i=>files.length - i) 0 (Nat.zero_le _) ?_ ?_
 ·rw [show M4 files 0 0=[] from rfl]
  exact H62 ⟨le1 rfl,le1 rfl,le1 rfl,le1 rfl,le1 rfl,trivial⟩ ⟨rfl,rfl,rfl,rfl,trivial⟩
 intro i hi
 dsimp only at hi ⊢
 refine k2 ?_
 refine A3 (A2 (D8 Z Z) Z (A6 ?_))
 refine k1 (k2 ?_)
 refine B4 rfl (fun ht=>?_) (fun ht=>?_)
 ·have hlt:i < files.length:=by have:=A0 ht;omega
  obtain ⟨f,hf⟩:∃f,f=files.getD i []:=⟨_,rfl⟩
  have hv:files[i]?=some f:=by rw [hf];simp [hlt]
  have hfl:f.length≤files.flatten.length:=by
   have h1:f∈files:=I12 hv
   have:∀(fs:List (List Str)),f∈fs→f.length≤fs.flatten.length:=by
    intro fs
    induction fs with
    | nil=>intro h;simp at h
    | cons x r ih =>
     intro h
     simp only [I11,H95]
     rcases List.mem_cons.1 h with rfl | h
     ·omega
     ·have:=ih h;omega
   exact this files h1
  have hrl:(N8 files i).length=files.length:=by simp [N8]
  refine k5 (k1 (k2 (k3 (k2 ?_))))
  refine A3 (A2 (A4 Z Z) Z (A2 (B0 Z (.pure _ _ _ _) Z (by omega) hv) Z (A2 (B2 Z Z) Z (A2 (A5 Z Z) Z (A2 (A5 Z Z) Z (A6 ?_))))))
  refine k1 (k2 ?_)
  refine A3 (A2 (A4 Z Z) Z (A2 (D4 Z (.pure _ _ _ _)) Z (A2 (A4 Z Z) Z (A6 ?_))))
  refine k1 (k3 ?_)
  refine G4 (H89 713 Int 1 F5 3 (kb:=20) (o:=i) Z (H22 hlt) (by simp [F9,H0,Ob.free,SV.free,S1.free,TC.free,F98];repeat' (first | rfl | constructor))) ?_
  refine C9 (X:=Nat) (fun j=>([(4,.s (.one (.ref 710 0))),(5,.s (.one (.mut 20))),(6,B7 i),(16,C0 (List Str) 1 strsC files),(17,B7 files.length),(18,B7 i),(23,C0 Str 1 J9 f),(24,B7 f.length),(25,B7 j)],[(20,.tarr files.length 1 ((N8 files i).set i (.buf 713 Int 1 F5 (K3 (E1 files) (f.take j))))),(710,.box [.mut 711,.buf 712 Str 1 J9 (M4 files i j)]),(711,.map Str A85 (u7 (M4 files i j) 0)),(712,.spare (M4 files i j).length 1 9),(713,.spare (K3 (E1 files) (f.take j)).length 1 3)])) (fun j=>j≤f.length) (fun j=>f.length - j) 0 (Nat.zero_le _) ?_ ?_
  ·exact H62 ⟨le1 rfl,le1 rfl,le1 rfl,le1 rfl,le1 rfl,le1 rfl,le1 rfl,le1 rfl,le1 rfl,trivial⟩ ⟨rfl,rfl,rfl,rfl,rfl,trivial⟩
  intro j hj
  dsimp only at hj ⊢
  refine k2 ?_
  refine A3 (A2 (D8 Z Z) Z (A6 ?_))
  refine k1 (k2 ?_)
  refine B4 rfl (fun ht=>?_) (fun ht=>?_)
  ·have hlt2:j < f.length:=by have:=A0 ht;omega
   obtain ⟨s,hs⟩:∃s,s=f[j]:=⟨_,rfl⟩
   have hvs:f[j]?=some s:=by rw [hs];simp [hlt2]
   have hstep:=E91 files i j s (by rw [←hf];exact hvs)
   obtain ⟨names,hnm⟩:∃names,names=M4 files i j:=⟨_,rfl⟩
   have hnl:=D57 files i j
   obtain ⟨rest,hrest⟩:=C71 files i (j+1)
   obtain ⟨ids,hids⟩:∃ids,ids=K3 (E1 files) (f.take j):=⟨_,rfl⟩
   have hil:ids.length=j:=by rw [hids];simp [K3];omega
   have hnext:K3 (E1 files) (f.take (j+1))=ids++[H7 (E1 files) s 0]:=by
    rw [hids,I04 hlt2,←hs];unfold K3;rw [I09];rfl
   rw [hstep] at hrest
   rw [←hnm] at hstep hnl hrest ⊢
   rw [←hids]
   have hTi:((N8 files i).set i (.buf 713 Int 1 F5 ids))[((i:Nat):Int).toNat]?=some (.buf 713 Int 1 F5 ids):=by
    rw [I03,I42 (by rw [hrl];omega)]
   have hTi2:(((N8 files i).set i (.buf 713 Int 1 F5 ids)).map (TC.forget 712))[((i:Nat):Int).toNat]?=some (.buf 713 Int 1 F5 ids):=by
    rw [I20,hTi];rfl
   refine k5 (k1 (k2 (k3 (k2 ?_))))
   refine A3 (A2 (B0 Z (.pure _ _ _ _) Z (by omega) hvs) Z (A2 (B2 Z Z) Z (A2 (A5 Z Z) Z (A6 ?_))))
   by_cases hmem:s∈names
   ·have hns:G7 names s=names:=by unfold G7;rw [if_pos hmem]
    rw [hns] at hstep hrest
    have hpl:H7 (E1 files) s 0=H7 names s 0:=by rw [hrest];exact B17 s rest names 0 hmem
    refine J4 ?_
    refine L1 ((9,R3 s)::[(4,.s (.one (.ref 710 0))),(5,.s (.one (.mut 20))),(6,B7 i),(16,C0 (List Str) 1 strsC files),(17,B7 files.length),(18,B7 i),(23,C0 Str 1 J9 f),(24,B7 f.length),(25,B7 j)]) [(20,.tarr files.length 1 ((N8 files i).set i (.buf 713 Int 1 F5 ids))),(710,.box [.mut 711,.buf 712 Str 1 J9 names]),(711,.map Str A85 (u7 names 0)),(712,.spare names.length 1 9),(713,.spare ids.length 1 3)] (H62 ⟨le1 rfl,le1 rfl,le1 rfl,le1 rfl,le1 rfl,le1 rfl,le1 rfl,le1 rfl,le1 rfl,le1 rfl,trivial⟩ ⟨rfl,rfl,rfl,rfl,rfl,trivial⟩) ?_
    refine S2 [12,10,8] [[],[8],[10,8],[12,10,8]] [(8,([],[])),(10,([713],[34])),(12,([],[]))] [(0,[]),(1,[]),(2,[]),(3,[]),(4,[]),(5,[]),(6,[]),(7,[]),(8,[]),(9,[8]),(10,[8]),(11,[10,8]),(12,[10,8])] [(0,[8]),(0,[10,8]),(1,[8]),(1,[10,8]),(2,[8]),(3,[8]),(4,[8]),(5,[8])] (by kernel_rfl) (by kernel_rfl) (D9 Z Z (by kernel_rfl) Z Z (A4 Z Z) (D9 Z Z (by kernel_rfl) Z Z (A4 Z Z) (D9 Z Z (by kernel_rfl) Z Z (A4 Z Z) (D9 Z Z (by kernel_rfl) Z Z (A4 Z Z) (D9 Z Z (by kernel_rfl) Z Z (F8 Z Z Z (by omega) (by omega)) (D9 Z Z (by kernel_rfl) Z Z (K8 Z Z (by first | exact hTi | exact hTi2)) ?_))))));refine D9 Z Z (by kernel_rfl) Z Z (A4 Z Z) (D9 Z Z (by kernel_rfl) Z Z (A4 Z Z) (X3 Z Z (by kernel_rfl) Z Z (r_met (fun gf=>tid_old names s hmem Z Z) Z Z) Z (D9 Z Z (by kernel_rfl) Z Z (C8 (c:=F5) (ys:=[H7 names s 0]) (D7 Z Z Z Z E7) Z Z Z) (X3 Z Z (by kernel_rfl) Z Z (C25 (fun frc hU=>F3 (V0 hU Z) Z (V0 hU Z) (.pure _ _ _ _) (by (simp only [H96,H98];omega)) Z)) Z (D9 Z Z (by kernel_rfl) Z Z (F8 Z Z Z (by omega) (by omega)) (X3 Z Z (by kernel_rfl) Z Z (D20 (fun frc hU=>d7 TySz.out (V0 hU Z) Z (by (simp;omega)) (V0 hU Z) Z)) Z ?_))))));refine D18 (by kernel_rfl) rfl ?_ ?_
    ·refine I3 Z Z (by kernel_rfl) Z Z (A4 Z Z) (I3 Z Z (by kernel_rfl) Z Z (A4 Z Z) (I3 Z Z (by kernel_rfl) Z Z (A4 Z Z) (I3 Z Z (by kernel_rfl) Z Z (A4 Z Z) (I3 Z Z (by kernel_rfl) Z Z (A4 Z Z) (I3 Z Z (by kernel_rfl) Z Z (A4 Z Z) (I3 Z Z (by kernel_rfl) Z Z (F8 Z Z Z (by omega) (by omega)) (I3 Z Z (by kernel_rfl) Z Z (K8 Z Z (by first | exact hTi | exact hTi2)) ?_)))))));exact C51
    refine L1 [(4,.s (.one (.ref 710 0))),(5,.s (.one (.mut 20))),(6,B7 i),(16,C0 (List Str) 1 strsC files),(17,B7 files.length),(18,B7 i),(23,C0 Str 1 J9 f),(24,B7 f.length),(25,B7 j)] [(20,.tarr files.length 1 ((N8 files i).set i (.buf 713 Int 1 F5 (ids++[H7 names s 0])))),(710,.box [.mut 711,.buf 712 Str 1 J9 (names)]),(711,.map Str A85 (u7 (names) 0)),(712,.spare (names).length 1 9),(713,.spare (ids++[H7 names s 0]).length 1 3)] (by rw [I03 i,G96];exact H62 ⟨le1 rfl,le1 rfl,le1 rfl,le1 rfl,le1 rfl,le1 rfl,le1 rfl,le1 rfl,le1 rfl,trivial⟩ ⟨rfl,rfl,rfl,rfl,rfl,trivial⟩) ?_
    refine A3 (A2 (B9 Z Z (by omega)) Z (A2 (A4 Z Z) Z (A6 ?_)))
    refine k1 ?_
    exact ⟨j+1,hlt2,by omega,by rw [hstep,hnext,hpl];exact H62 ⟨le1 rfl,le1 rfl,le1 rfl,le1 rfl,le1 rfl,le1 rfl,le1 rfl,le1 rfl,le1 rfl,trivial⟩ ⟨rfl,rfl,rfl,rfl,rfl,trivial⟩⟩
   ·refine J4 ?_
    have hns:G7 names s=names++[s]:=by unfold G7;rw [if_neg hmem]
    rw [hns] at hstep hrest
    have hkv:u7 (names++[s]) 0=u7 names 0++[(s,.v (.int .i64 (names.length:Int)))]:=by rw [E38];simp only [Int.zero_add]
    have hpl:H7 (E1 files) s 0=names.length:=by
     rw [hrest,B17 s rest (names++[s]) 0 (by simp),C70 s names 0 hmem];omega
    refine L1 ((9,R3 s)::[(4,.s (.one (.ref 710 0))),(5,.s (.one (.mut 20))),(6,B7 i),(16,C0 (List Str) 1 strsC files),(17,B7 files.length),(18,B7 i),(23,C0 Str 1 J9 f),(24,B7 f.length),(25,B7 j)]) [(20,.tarr files.length 1 ((N8 files i).set i (.buf 713 Int 1 F5 (ids)))),(710,.box [.mut 711,.buf 712 Str 1 J9 (names)]),(711,.map Str A85 (u7 (names) 0)),(712,.spare (names).length 1 9),(713,.spare (ids).length 1 3)] (H62 ⟨le1 rfl,le1 rfl,le1 rfl,le1 rfl,le1 rfl,le1 rfl,le1 rfl,le1 rfl,le1 rfl,le1 rfl,trivial⟩ ⟨rfl,rfl,rfl,rfl,rfl,trivial⟩) ?_
    refine S2 [12,10,8] [[],[8],[10,8],[12,10,8]] [(8,([712],[])),(10,([713],[34])),(12,([],[]))] [(0,[]),(1,[]),(2,[]),(3,[]),(4,[]),(5,[]),(6,[]),(7,[]),(8,[]),(9,[8]),(10,[8]),(11,[10,8]),(12,[10,8])] [(0,[8]),(0,[10,8]),(1,[8]),(1,[10,8]),(2,[8]),(3,[8]),(4,[8]),(5,[8])] (by kernel_rfl) (by kernel_rfl) (D9 Z Z (by kernel_rfl) Z Z (A4 Z Z) (D9 Z Z (by kernel_rfl) Z Z (A4 Z Z) (D9 Z Z (by kernel_rfl) Z Z (A4 Z Z) (D9 Z Z (by kernel_rfl) Z Z (A4 Z Z) (D9 Z Z (by kernel_rfl) Z Z (F8 Z Z Z (by omega) (by omega)) (D9 Z Z (by kernel_rfl) Z Z (K8 Z Z (by first | exact hTi | exact hTi2)) ?_))))));refine D9 Z Z (by kernel_rfl) Z Z (A4 Z Z) (D9 Z Z (by kernel_rfl) Z Z (A4 Z Z) (X3 Z Z (by kernel_rfl) Z Z (r_met (fun gf=>tid_new names s hmem (by omega) Z Z Z) Z Z) Z (D9 Z Z (by kernel_rfl) Z Z (C8 (c:=F5) (ys:=[(names.length:Int)]) (D7 Z Z Z Z E7) Z Z Z) (X3 Z Z (by kernel_rfl) Z Z (C25 (fun frc hU=>F3 (V0 hU Z) Z (V0 hU Z) (.pure _ _ _ _) (by (simp only [H96,H98];omega)) Z)) Z (D9 Z Z (by kernel_rfl) Z Z (F8 Z Z Z (by omega) (by omega)) (X3 Z Z (by kernel_rfl) Z Z (D20 (fun frc hU=>d7 TySz.out (V0 hU Z) Z (by (simp;omega)) (V0 hU Z) Z)) Z ?_))))));refine D18 (by kernel_rfl) rfl ?_ ?_
    ·refine I3 Z Z (by kernel_rfl) Z Z (A4 Z Z) (I3 Z Z (by kernel_rfl) Z Z (A4 Z Z) (I3 Z Z (by kernel_rfl) Z Z (A4 Z Z) (I3 Z Z (by kernel_rfl) Z Z (A4 Z Z) (I3 Z Z (by kernel_rfl) Z Z (A4 Z Z) (I3 Z Z (by kernel_rfl) Z Z (A4 Z Z) (I3 Z Z (by kernel_rfl) Z Z (F8 Z Z Z (by omega) (by omega)) (I3 Z Z (by kernel_rfl) Z Z (K8 Z Z (by first | exact hTi | exact hTi2)) ?_)))))));exact C51
    refine L1 [(4,.s (.one (.ref 710 0))),(5,.s (.one (.mut 20))),(6,B7 i),(16,C0 (List Str) 1 strsC files),(17,B7 files.length),(18,B7 i),(23,C0 Str 1 J9 f),(24,B7 f.length),(25,B7 j)] [(20,.tarr files.length 1 ((N8 files i).set i (.buf 713 Int 1 F5 (ids++[(names.length:Int)])))),(710,.box [.mut 711,.buf 712 Str 1 J9 (names++[s])]),(711,.map Str A85 (u7 (names++[s]) 0)),(712,.spare (names++[s]).length 1 9),(713,.spare (ids++[(names.length:Int)]).length 1 3)] (by rw [I03 i,F99,hkv];exact H62 ⟨le1 rfl,le1 rfl,le1 rfl,le1 rfl,le1 rfl,le1 rfl,le1 rfl,le1 rfl,le1 rfl,trivial⟩ ⟨rfl,rfl,rfl,rfl,rfl,trivial⟩) ?_
    refine A3 (A2 (B9 Z Z (by omega)) Z (A2 (A4 Z Z) Z (A6 ?_)))
    refine k1 ?_
    exact ⟨j+1,hlt2,by omega,by rw [hstep,hnext,hpl];exact H62 ⟨le1 rfl,le1 rfl,le1 rfl,le1 rfl,le1 rfl,le1 rfl,le1 rfl,le1 rfl,le1 rfl,trivial⟩ ⟨rfl,rfl,rfl,rfl,rfl,trivial⟩⟩
  ·have hj2:j=f.length:=by have:=A1 ht;omega
   subst hj2
   rw [I16]
   refine k6 (k7 (k7 (k8 Z (k4 (k1 ?_)))))
   refine G4 (Sees.forget 713) ?_
   have hfr:((N8 files i).set i (.buf 713 Int 1 F5 (K3 (E1 files) f))).map (TC.forget 713)=N8 files (i+1):=by rw [hf];exact E92 files i 713 hlt
   have hnr:M4 files (i+1) 0=M4 files i f.length:=by rw [hf];exact F72 files i
   refine L1 [(4,.s (.one (.ref 710 0))),(5,.s (.one (.mut 20))),(16,C0 (List Str) 1 strsC files),(17,B7 files.length),(18,B7 i)] [(710,.box [.mut 711,.buf 712 Str 1 J9 (M4 files (i+1) 0)]),(711,.map Str A85 (u7 (M4 files (i+1) 0) 0)),(712,.spare (M4 files (i+1) 0).length 1 9),(20,.tarr files.length 1 (N8 files (i+1)))] (by rw [hnr,←hfr];exact H62 ⟨le1 rfl,le1 rfl,le1 rfl,le1 rfl,le1 rfl,trivial⟩ ⟨rfl,rfl,rfl,rfl,trivial⟩) ?_
   refine A3 (A2 (B9 Z Z (by omega)) Z (A2 (A4 Z Z) Z (A6 ?_)))
   refine k1 ?_
   exact ⟨i+1,hlt,by omega,H62 ⟨le1 rfl,le1 rfl,le1 rfl,le1 rfl,le1 rfl,trivial⟩ ⟨rfl,rfl,rfl,rfl,trivial⟩⟩
 ·have hi2:i=files.length:=by have:=A1 ht;omega
  rw [hi2,F73]
  refine G4 (H78 20 (c:=intsC) (files.map (K3 (E1 files))) Z (by simp) (G31 files)) ?_
  refine G4 (Sees.freeze (k:=20) Z) ?_
  refine G4 (Sees.forget 712) ?_
  refine k6 (k2 ?_)
  refine C6 (by kernel_rfl) (by kernel_rfl) (A9 (A4 Z Z) Z Z (A9 (A4 Z Z) Z Z (A9 (D3 Z) Z Z (A9 (A7 Z) Z Z (A9 (A8 Z Z Z) Z Z (A9 (A5 Z Z) Z Z (A9 (A5 Z Z) Z Z (K0 ?_))))))))
  refine k1 (k10 ?_)
  exact B5 (A20 rfl rfl rfl rfl rfl) rfl
theorem E65 (files:List (List Str)) (hn:files.length≤1048576) (hl:files.flatten.length≤536870911):FnOk Tryz.prog 68 [pStrss files] (fun rs=>rs=[pIntss (files.map (K3 (E1 files)))]):=by
 refine FnOk.intro Tryz.func68 (by decide) Z Z Z Z ?_
 refine k2 ?_
 refine A3 (A2 (A5 Z Z) Z (A6 ?_))
 refine k1 (k2 ?_)
 refine A3 (A2 (A4 Z Z) Z (C3 (E22 files hn hl) Z Z Z ?_));rintro _ rfl;refine A2 (A4 Z Z) Z (A2 (D5 Z Z) Z (A2 (D5 Z Z) Z (A2 (A5 Z Z) Z (A2 (A5 Z Z) Z (A6 ?_)))))
 refine k1 (k2 ?_)
 refine A3 (A2 (A4 Z Z) Z (A2 (A5 Z Z) Z (A6 ?_)))
 refine k1 (k10 ?_)
 exact B5 (F2 rfl rfl rfl) rfl
theorem A76:∀(ls:List (List Int)) (acc:List Merged) (p B:Nat),(∀x∈ls,x.length≤B)→acc.length+ls.length*B≤4096→(I4 acc p ls).2=0
 | [],acc,p,B,_,_=>rfl
 | x::r,acc,p,B,h,hb=>by
  have hx:=h x (by simp)
  rw [H96,I18,Nat.one_mul] at hb
  have hj:=B08 acc x p
  unfold I4
  rw [if_neg (by omega)]
  exact A76 r _ _ B (fun y hy=>h y (by simp [hy])) (by omega)
theorem E23 (p:Nat) (h:p≤32):IntKind.u32.wrap (1*2 ^ (min (p:Int).toNat IntKind.u32.bits))=H3 p:=by
 unfold H3;rw [A51 (n:=(p:Int)) (by omega)]
set_option maxHeartbeats 1000000
theorem E66 (ls:List (List Int)) (B:Nat) (hpos:0 < ls.length) (hn:ls.length≤32) (hB:∀x∈ls,x.length≤B) (hb:ls.length*B≤4096):FnOk Tryz.prog 233 [pIntss ls] (fun rs=>rs=[pMerged (E9 ls).1,G8 0]):=by
 obtain ⟨W,hW⟩:∃W,W=(E9 ls).1:=⟨_,rfl⟩
 have hW2:W=(I4 [] 0 ls).1:=by rw [hW];unfold E9;rw [if_neg (by omega)]
 rw [←hW]
 have h0:∀x,ls[(0:Int).toNat]?=some x→x.length≤4096:=fun x hx=>by
  have h1:=hB x (I12 hx)
  have h2:0 < ls.length:=List.length_pos_of_mem (I12 hx)
  have h3:1*B≤ls.length*B:=I08 _ h2
  omega
 have hx0:0 < ls.length→∃x,ls[(0:Int).toNat]?=some x∧x.length≤4096:=fun h=>⟨ls[0],H97 h,h0 _ (H97 h)⟩
 refine FnOk.intro Tryz.func233 (by decide) Z Z Z Z ?_
 refine k2 ?_
 refine A3 (A2 (A5 Z Z) Z (A2 (A5 Z Z) Z (A6 ?_)))
 refine k1 (k2 (k2 ?_))
 obtain ⟨x0,hv0,hxl⟩:=hx0 hpos
 refine A3 (A2 (A4 Z Z) Z (A2 (D4 Z (.pure _ _ _ _)) Z (A2 (M7 Z Z) Z (A2 (A4 Z Z) Z (B1 Z Z Z Z (fun hg=>by rw [hg];exact A4 Z Z) ?_)))));refine B1 Z Z Z Z (fun hg=>by rw [hg];exact D4 Z (.pure _ _ _ _)) ?_;refine B1 Z Z Z Z (fun hg=>by rw [hg];exact M7 Z Z) ?_;refine B1 Z Z Z Z (fun hg=>by rw [hg];exact A4 Z Z) ?_;refine J7 Z Z Z (.gd (.val _)) Z (fun hg=>by obtain ⟨hg1,hg2⟩:=P3 hg;(try rw [hg1]);(try rw [hg2]);exact A4 Z Z) ?_;refine J7 Z Z Z (.gd (.val _)) Z (fun hg=>by have hq:=hg;(try simp at hq);obtain ⟨hg1,hg2⟩:=P3 hg;(try rw [hg1]);(try rw [hg2]);exact B0 Z (.pure _ _ _ _) Z (by omega) hv0) ?_;refine J7 Z Z Z (.gd (.val _)) Z (fun hg=>by obtain ⟨hg1,hg2⟩:=P3 hg;(try rw [hg1]);(try rw [hg2]);exact B2 Z Z) ?_;refine J7 Z Z Z (.gd (.val _)) Z (fun hg=>by obtain ⟨hg1,hg2⟩:=P3 hg;(try rw [hg1]);(try rw [hg2]);exact D4 Z (.pure _ _ _ _)) ?_;refine J7 Z Z Z (.gd (.val _)) Z (fun hg=>by obtain ⟨hg1,hg2⟩:=P3 hg;(try rw [hg1]);(try rw [hg2]);exact M7 Z Z) ?_;refine B1 Z Z Z Z (fun hg=>by rw [hg];exact B6 Z (fun h=>by first | rfl | (rw [h];rfl)) (fun h=>by first | rfl | (rw [h];rfl))) ?_;refine A2 (B6 Z (fun h=>by first | rfl | (rw [h];rfl)) (fun h=>by first | rfl | (rw [h];rfl))) Z ?_;refine A6 ?_
 refine k1 ?_
 refine B4 rfl (fun ht=>?_) (fun ht=>?_)
 ·exfalso
  have q1:¬((ls.length:Int) > 32):=by omega
  have q2:¬((x0.length:Int) > 4096):=by omega
  simp [q1,q2] at ht
 refine L1 [(0,C0 (List Int) 1 intsC ls)] [] (H62 ⟨le1 rfl,trivial⟩ trivial) ?_
 refine k5 (k1 (k2 ?_))
 refine A3 (A2 (O4 _ 2 mergedC) Z (A6 ?_))
 refine k1 (k2 (k2 ?_))
 refine A3 (A2 (A4 Z Z) Z (A2 (D4 Z (.pure _ _ _ _)) Z (A2 (A4 Z Z) Z (A6 ?_))))
 refine k1 (k3 ?_)
 refine C9 (X:=Nat × List Merged) (fun x=>([(4,C0 Merged 2 mergedC x.2),(23,C0 (List Int) 1 intsC ls),(24,B7 ls.length),(25,B7 x.1)],[])) (fun x=>x.1≤ls.length∧x.2.length≤x.1*B∧W=(I4 x.2 x.1 (ls.drop x.1)).1) (fun x=>ls.length - x.1) (0,[]) ⟨Nat.zero_le _,(by simp),hW2⟩ (H62 ⟨le1 rfl,le1 rfl,le1 rfl,le1 rfl,trivial⟩ trivial) ?_
 rintro ⟨p,acc⟩ ⟨hp,hal,hw⟩
 dsimp only at hp hal hw ⊢
 have hpB:p*B≤ls.length*B:=I08 _ hp
 refine k2 ?_
 refine A3 (A2 (D8 Z Z) Z (A6 ?_))
 refine k1 (k2 ?_)
 refine B4 rfl (fun ht=>?_) (fun ht=>?_)
 rotate_left
 ·have hpl:p=ls.length:=by have:=A1 ht;omega
  rw [hpl,I02 (Nat.le_refl _)] at hw
  have hw:W=acc:=hw
  refine k6 (k2 ?_)
  refine A3 (A2 (A4 Z Z) Z (A2 (A5 Z Z) Z (A2 (A5 Z Z) Z (A6 ?_))))
  refine k1 (k10 ?_)
  exact B5 (A20 rfl rfl rfl rfl rfl) (by rw [hw])
 have hlt:p < ls.length:=by have:=A0 ht;omega
 have hv:ls[p]?=some ls[p]:=by simp [hlt]
 have hx:=hB _ (I07 hlt)
 rw [I01 hlt,I4] at hw
 obtain ⟨x,hxd⟩:∃x,x=ls[p]:=⟨_,rfl⟩
 rw [←hxd] at hv hx hw
 have h1B:1*B≤ls.length*B:=I08 _ hpos
 rw [if_neg (by omega)] at hw
 have hjs:=B08 acc x p
 have hM:=G95 acc x (H3 p) (by omega) (by omega)
 have hres:C28 acc x (H3 p)=S9 acc x p:=rfl
 rw [hres] at hM
 refine k5 (k1 (k2 (k3 (k2 ?_))))
 refine A3 (A2 (A4 Z Z) Z (A2 (B0 Z (.pure _ _ _ _) Z (by omega) hv) Z (A2 (B2 Z Z) Z (A2 (A5 Z Z) Z (A2 (A5 Z Z) Z (A6 ?_))))))
 refine k1 (k2 ?_)
 refine A3 (A2 (A5 Z Z) Z (A6 ?_))
 refine k1 (k2 ?_)
 refine A3 (A2 (A4 Z Z) Z (A2 (A4 Z Z) Z (A2 (A4 Z Z) Z (A2 (D99 Z Z (by (show (0:Int)≤(p:Int);omega))) Z ?_))));rw [E23 p (by omega)];refine C3 hM Z Z Z ?_;rintro _ rfl;refine A2 (A4 Z Z) Z (A2 (D5 Z Z) Z (A2 (D5 Z Z) Z (A2 (A5 Z Z) Z (A2 (A5 Z Z) Z (A6 ?_)))))
 refine k1 (k2 ?_)
 refine A3 (A2 (A4 Z Z) Z (A2 (O3 Z Z) Z (A6 ?_)))
 refine k1 ?_
 refine B4 rfl (fun ht=>?_) (fun ht=>?_)
 ·cases ht
 refine k5 (k4 (k1 ?_))
 refine A3 (A2 (B9 Z Z (by omega)) Z (A2 (A4 Z Z) Z (A6 ?_)))
 refine k1 ?_
 exact ⟨(p+1,S9 acc x p),⟨by dsimp only;omega,by dsimp only;rw [I18];omega,hw⟩,by dsimp only;omega,H62 ⟨le1 rfl,le1 rfl,le1 rfl,le1 rfl,trivial⟩ trivial⟩
theorem D31 (files:List (List Str)) (hn:files.length≤1048576) (hl:files.flatten.length≤536870911):FnOk Tryz.prog 174 [pStrss files] (fun rs=>rs=[t6 (E1 files)]):=by
 refine FnOk.intro Tryz.func174 (by decide) Z Z Z Z ?_
 refine k2 ?_
 refine A3 (A2 (A5 Z Z) Z (A6 ?_))
 refine k1 (k2 ?_)
 refine A3 (A2 (A4 Z Z) Z (C3 (E22 files hn hl) Z Z Z ?_));rintro _ rfl;refine A2 (A4 Z Z) Z (A2 (D5 Z Z) Z (A2 (D5 Z Z) Z (A2 (A5 Z Z) Z (A2 (A5 Z Z) Z (A6 ?_)))))
 refine k1 (k2 ?_)
 refine A3 (A2 (A4 Z Z) Z (A2 (A5 Z Z) Z (A6 ?_)))
 refine k1 (k10 ?_)
 exact B5 (F2 rfl rfl rfl) rfl
abbrev R4 (m:Nat):List TC:=I9 intsC m 0 (fun _=>([]:List (List Int)))
abbrev Y7 (names:List Str) (lines:List Int) (n:Nat):Ob:=.box [.p (.list Str 1 J9 names),.p (.list Int 1 F5 lines),.mut 731,.mut 732,.p (.v (.int .i64 n)),.p (.v (.slice none 0 0))]
abbrev n9:Ob:=.box [.p (.v (.int .i64 0)),.p (.v (.slice none 0 0))]
abbrev B04 (names:List Str) (lines ms:List Int) (g:Nat→List (List Int)) (n m:Nat):Obs :=
 (4,n9)::(730,Y7 names lines n)::(731,.arr Int 1 Z1 ms)::(732,.growT 114 m 1 (R4 m))::H1 intsC g (List.range m)
theorem B05 {m k:Nat} (hk:k < 1000):(R4 m).all (TC.free k)=true:=by
 rw [List.all_eq_true]
 intro t ht
 obtain ⟨r,_,rfl⟩:=List.mem_map.1 ht
 rw [if_neg (by omega)]
 simp [TC.free,I0 (show r+1000≠k by omega)]
theorem G00 {names:List Str} {lines ms:List Int} {g:Nat→List (List Int)} {n m:Nat}:H0 708 (B04 names lines ms g n m)=true:=by
 have h1:=A36 (k:=708) (by omega) (List.range m) (fun r _=>by omega) (c:=intsC) (g:=g)
 have h2:=B05 (m:=m) (k:=708) (by omega)
 simp only [H0,Ob.free,h1,h2]
 rfl
theorem obs_top {i:Nat} {x y:Ob} {rest:Obs}:∀k o,C2 ((i,x)::rest) k=some o→C2 ((i,x)::(i,y)::rest) k=some o:=by
 intro k o h
 by_cases hk:i=k
 ·subst hk;rw [C7] at h ⊢;exact h
 ·rw [B3 hk] at h;rw [B3 hk,B3 hk];exact h
abbrev chBox (a b c d:Int):Ob:=.box [.p (.v (.int .i64 a)),.p (.v (.int .i64 b)),.p (.v (.int .i64 c)),.p (.v (.int .i64 d))]
set_option maxHeartbeats 1000000
theorem H42 {gf:Fr} (names:List Str) (lines file ms:List Int) (g:Nat→List (List Int)) (n p:Nat) (hl:lines.length≤4096) (hf:file.length≤4096) (hms:ms.length=lines.length) (hp:p < 32) (hpn:p < n) (hg:∀k,(g k).length=n) :
  AL.Met Tryz.prog 175 [.one (.ref 730 0),.one (.p (.v (.int .i64 p))),.one (.p (.list Int 1 F5 file))] gf (B04 names lines ms g n (lines.length+1)) [708]
   (fun rs ob'=>rs=[.one (.p (.v (.int .i64 0)))]∧ob'=B04 names lines ((K5 file lines).foldl (N9 p) ms) ((K5 file lines).foldl (I8 p file) g) n (lines.length+1)):=by
 have hS:=D30 file lines hf hl
 have hwb:=A49 file lines
 have hml:=m7 (F1 0 0 file lines) 0 0 file.length lines.length
 have hwl:=S6 0 0 file lines
 obtain ⟨cs,hcs⟩:∃cs,cs=K5 file lines:=⟨_,rfl⟩
 have hcsl:cs.length≤4097:=by rw [hcs];unfold K5 X8;omega
 rw [←hcs] at hS hwb ⊢
 refine AL.Met.introH Tryz.func175 (by decide) rfl rfl rfl (fun hH=>?_)
 refine k2 ?_
 refine A3 (A2 (A5 Z Z) Z (A6 ?_))
 refine k1 (k2 ?_)
 refine A3 (A2 (A4 Z Z) Z (A2 (A4 Z Z) Z (A2 (D3 Z) Z (A2 (A7 Z) Z (A2 (A8 Z Z Z) Z (C3 (hS) Z Z Z ?_))))));rintro _ rfl;refine A2 (A4 Z Z) Z (A2 (D5 Z Z) Z (A2 (D5 Z Z) Z (A2 (A5 Z Z) Z (A2 (A5 Z Z) Z (A6 ?_)))))
 refine k1 (k2 (k2 ?_))
 refine A3 (A2 (A4 Z Z) Z (A2 (O3 Z Z) Z (A6 ?_)))
 refine k1 ?_
 refine B4 rfl (fun ht=>?_) (fun ht=>?_)
 ·cases ht
 refine k5 (k1 (k2 (k2 ?_)))
 refine A3 (A2 (A4 Z Z) Z (A2 (D4 Z (.pure _ _ _ _)) Z (A2 (A4 Z Z) Z (A6 ?_))))
 refine k1 (k3 ?_)
 refine G4 (H81 [708] (l:=[(0,.s (.one (.ref 730 0))),(1,B7 p),(2,C0 Int 1 F5 file),(24,C0 Change 4 changeC cs),(25,B7 cs.length),(26,B7 0)]) (ob':=B04 names lines ms g n (lines.length+1)) ⟨le1 rfl,le1 rfl,le1 rfl,le1 rfl,le1 rfl,le1 rfl,trivial⟩ hH (by repeat (first | exact H4 | refine H5 rfl ?_)) (fun _ _ h=>h)) ?_
 refine C9 (X:=Nat) (fun i=>([(0,.s (.one (.ref 730 0))),(1,B7 p),(2,C0 Int 1 F5 file),(24,C0 Change 4 changeC cs),(25,B7 cs.length),(26,B7 i)]++E4 [708] gf,B04 names lines ((cs.take i).foldl (N9 p) ms) ((cs.take i).foldl (I8 p file) g) n (lines.length+1))) (fun i=>i≤cs.length) (fun i=>cs.length - i) 0 (Nat.zero_le _) (H80 fun _ _ h=>h) ?_
 intro i hi
 dsimp only at hi ⊢
 refine k2 ?_
 refine A3 (A2 (D8 Z Z) Z (A6 ?_))
 refine k1 (k2 ?_)
 refine B4 rfl (fun ht=>?_) (fun ht=>?_)
 rotate_left
 ·have hil:i=cs.length:=by have:=A1 ht;omega
  rw [hil,I16]
  refine k6 (k2 ?_)
  refine A3 (A2 (A5 Z Z) Z (A6 ?_))
  refine k1 (k10 ?_)
  exact l9 (B83 rfl rfl) (by repeat (first | exact H4 | refine H5 rfl ?_)) (fun _ _ h=>h) ⟨rfl,rfl⟩
 have hlt:i < cs.length:=by have:=A0 ht;omega
 have hv:cs[i]?=some cs[i]:=by simp [hlt]
 have hcb:=hwb _ (I07 hlt)
 have hst1:(cs.take (i+1)).foldl (N9 p) ms=N9 p ((cs.take i).foldl (N9 p) ms) cs[i]:=by rw [I04 hlt,I29];rfl
 have hst2:(cs.take (i+1)).foldl (I8 p file) g=I8 p file ((cs.take i).foldl (I8 p file) g) cs[i]:=by rw [I04 hlt,I29];rfl
 have hmi:((cs.take i).foldl (N9 p) ms).length=lines.length:=by
  have key:∀(q:List Change) (ms:List Int),(q.foldl (N9 p) ms).length=ms.length:=by
   intro q
   induction q with
   | nil=>intro ms;rfl
   | cons c r ih=>intro ms;rw [I22,ih,m8]
  rw [key,hms]
 have hgi:∀k,((cs.take i).foldl (I8 p file) g k).length=n:=by
  have key:∀(q:List Change) (g:Nat→List (List Int)),(∀k,(g k).length=n)→∀k,(q.foldl (I8 p file) g k).length=n:=by
   intro q
   induction q with
   | nil=>intro g h;exact h
   | cons c r ih =>
    intro g h
    refine ih _ (fun k=>?_)
    unfold I8
    split
    ·rw [List.length_set];exact h k
    ·exact h k
  exact key _ _ hg
 obtain ⟨m1,hm1⟩:∃m1,m1=(cs.take i).foldl (N9 p) ms:=⟨_,rfl⟩
 obtain ⟨g1,hg1⟩:∃g1,g1=(cs.take i).foldl (I8 p file) g:=⟨_,rfl⟩
 obtain ⟨c,hc⟩:∃c,c=cs[i]:=⟨_,rfl⟩
 rw [←hm1] at hst1 hmi ⊢
 rw [←hg1] at hst2 hgi ⊢
 rw [←hc] at hv hcb hst1 hst2
 obtain ⟨co,col,cn,cnl⟩:=c
 dsimp only at hcb
 obtain ⟨A,rfl⟩:∃A:Nat,co=A:=⟨co.toNat,by omega⟩
 obtain ⟨B,rfl⟩:∃B:Nat,col=B:=⟨col.toNat,by omega⟩
 obtain ⟨C,rfl⟩:∃C:Nat,cn=C:=⟨cn.toNat,by omega⟩
 obtain ⟨D,rfl⟩:∃D:Nat,cnl=D:=⟨cnl.toNat,by omega⟩
 have hfree:∀ms',H0 708 (B04 names lines ms' g1 n (lines.length+1))=true:=fun ms'=>G00
 obtain ⟨hf1,hf2,_⟩:=R9 (hfree m1)
 refine k5 (k1 (k2 (k3 (k2 ?_))))
 refine A3 (A2 (B0 Z (.pure _ _ _ _) Z (by omega) hv) Z (A2 (E8 Z Z) Z (C1 (E48 708 hf2 (by decide)) Z (F6 (B8 TySz.out Z Z Z Z Z Z) (A6 ?_)))))
 rw [hf1]
 refine L1 ([(0,.s (.one (.ref 730 0))),(1,B7 p),(2,C0 Int 1 F5 file),(10,.s (.one (.ref 708 0))),(24,C0 Change 4 changeC cs),(25,B7 cs.length),(26,B7 i)]++E4 [708] gf) ((708,chBox A B C D)::B04 names lines m1 g1 n (lines.length+1)) (H63 ⟨le1 rfl,le1 rfl,le1 rfl,le1 rfl,le1 rfl,le1 rfl,le1 rfl,trivial⟩ (N0 hH) (by repeat (first | exact H4 | refine H5 rfl ?_ | refine A40 _ rfl ?_)) obs_top) ?_
 refine k2 (k2 ?_)
 refine A3 (A2 (A7 Z) Z (A2 (A8 Z Z Z) Z (A2 (A5 Z Z) Z (A6 ?_))))
 refine k1 (k3 ?_)
 refine C9 (X:=Nat) (fun t=>([(0,.s (.one (.ref 730 0))),(1,B7 p),(2,C0 Int 1 F5 file),(10,.s (.one (.ref 708 0))),(11,B7 ((C+t:Nat):Int)),(24,C0 Change 4 changeC cs),(25,B7 cs.length),(26,B7 i)]++E4 [708] gf,(708,chBox A B C D)::B04 names lines (N9 p m1 ⟨A,B,C,t⟩) g1 n (lines.length+1))) (fun t=>t≤D) (fun t=>D - t) 0 (Nat.zero_le _) ?_ ?_
 ·dsimp only
  rw [show ((0:Nat):Int)=0 from rfl,F70]
  exact H63 ⟨le1 rfl,le1 rfl,le1 rfl,le1 rfl,le1 rfl,le1 rfl,le1 rfl,le1 rfl,trivial⟩ (N0 hH) (by repeat (first | exact H4 | refine H5 rfl ?_)) (fun _ _ h=>h)
 intro t ht1
 dsimp only at ht1 ⊢
 have hsl:=m8 p m1 ⟨A,B,C,t⟩
 refine k2 (k2 ?_)
 refine A3 (A2 (A4 Z Z) Z (A2 (A7 Z) Z (A2 (A8 Z Z Z) Z (A2 (A7 Z) Z (A2 (A8 Z Z Z) Z (A2 (B9 Z Z (by omega)) Z (A2 (D8 Z Z) Z (A6 ?_))))))))
 refine k1 ?_
 refine B4 rfl (fun ht=>?_) (fun ht=>?_)
 ·have hltD:t < D:=by have:=A0 ht;omega
  obtain ⟨q1,q2⟩:=F71 p m1 A B C t (by omega)
  have hv2:(N9 p m1 ⟨A,B,C,t⟩)[((C+t:Nat):Int).toNat]?=some (m1.getD (C+t) 0):=by rw [I03];exact q1
  refine k5 (k1 (k2 (k3 ?_)))
  refine C6 (by kernel_rfl) (by kernel_rfl) (A9 (A4 Z Z) Z Z (A9 (D3 Z) Z Z (A9 (A7 Z) Z Z (A9 (A8 Z Z Z) Z Z (A9 (A4 Z Z) Z Z (A9 (E0 Z Z Z (by omega) (by (rw [hsl];omega))) Z Z ?_))))));refine A9 (L9 Z Z hv2 Z) Z Z (A9 (A4 Z Z) Z Z (A9 (D99 Z Z (by (show (0:Int)≤(p:Int);omega))) Z Z ?_));refine A9 (X6 Z Z Z (fun _=>rfl)) Z Z (A9 (E0 Z Z Z (by omega) (by (rw [hsl];omega))) Z Z ?_);refine v8 (G1 TySz.out Z Z (by (rw [hsl];omega)) Z Z) Z ?_;refine K0 ?_
  rw [E23 p (by omega)]
  refine k4 (k1 ?_)
  refine A3 (A2 (A4 Z Z) Z (A2 (B9 Z Z (by omega)) Z (A2 (A5 Z Z) Z (A6 ?_))))
  refine k1 ?_
  refine ⟨t+1,by omega,by omega,?_⟩
  rw [←q2]
  refine H63 ⟨le1 rfl,le1 rfl,le1 rfl,le1 rfl,leE rfl (by rw [show ((C+(t+1):Nat):Int)=((C+t:Nat):Int)+1 by omega]),le1 rfl,le1 rfl,le1 rfl,trivial⟩ (N0 hH) (by repeat (first | exact H4 | refine tail_drop rfl ?_ | refine H5 rfl ?_ | refine A40 _ rfl ?_)) ?_
  exact B24 (L:=[(708,_),(4,_),(730,_),(731,_),(732,_)]) ⟨rfl,rfl,rfl,rfl,rfl,trivial⟩ (by repeat (first | exact B00 | refine B01 rfl ?_))
 have htD:t=D:=by have:=A1 ht;omega
 subst htD
 rw [←hst1]
 have hC:C < lines.length+1:=by omega
 have hrow:(R4 (lines.length+1))[C]?=some (.mut (C+1000)):=F08 hC (Nat.zero_le _)
 have hgl:(R4 (lines.length+1)).length=lines.length+1:=D02
 obtain ⟨m2,hm2⟩:∃m2,m2=(cs.take (i+1)).foldl (N9 p) ms:=⟨_,rfl⟩
 rw [←hm2]
 have hob:C2 ((708,chBox A B C t)::B04 names lines m2 g1 n (lines.length+1)) (C+1000)=some (.arr (List Int) 1 intsC (g1 C)):=by
  rw [B3 (by omega),B3 (by omega),B3 (by omega),B3 (by omega),B3 (by omega)]
  exact l8 (List.mem_range.2 hC)
 have hgC:=hgi C
 have eAB:((A:Int)+B).toNat - (A:Int).toNat=B:=by omega
 have hnew:(g1 C).set p ((file.drop A).take B)=(cs.take (i+1)).foldl (I8 p file) g C:=by
  rw [hst2,I8,if_pos (by simp)]
  dsimp only
  rw [eAB,I03]
 have hsame:∀q,q≠C→(cs.take (i+1)).foldl (I8 p file) g q=g1 q:=by
  intro q hq
  rw [hst2,I8,if_neg (by simpa using hq)]
 refine k6 (k7 (k7 (k8 Z (k1 ?_))))
 refine C6 (by kernel_rfl) (by kernel_rfl) (A9 (A4 Z Z) Z Z (A9 (D3 Z) Z Z (A9 (A7 Z) Z Z (A9 (A8 Z Z Z) Z Z (A9 (A7 Z) Z Z (A9 (A8 Z Z Z) Z Z (A9 (D23 Z Z Z (by omega) (by (first | omega | (rw [I03];omega)))) Z Z (A9 (G84 Z Z (by simpa using hrow)) Z Z (A9 (A4 Z Z) Z Z (A9 (A4 Z Z) Z Z (A9 (A7 Z) Z Z (A9 (A8 Z Z Z) Z Z (A9 (A7 Z) Z Z (A9 (A8 Z Z Z) Z Z (A9 (A7 Z) Z Z (A9 (A8 Z Z Z) Z Z (A9 (B9 Z Z (by omega)) Z Z (A9 (T7 Z (.pure _ _ _ _) Z Z (by omega) (by omega) (by omega)) Z Z (A9 (E0 Z hob Z (by omega) (by (first | omega | (rw [hgC];omega)))) Z Z (v8 (G1 TySz.out Z hob (by (first | omega | (rw [I03,hgC];omega))) Z Z) Z (K0 ?_)))))))))))))))))))))
 rw [eAB,I03,I03,hnew]
 refine k4 (k1 ?_)
 refine A3 (A2 (B9 Z Z (by omega)) Z (A2 (A4 Z Z) Z (A6 ?_)))
 refine k1 ?_
 refine ⟨i+1,by omega,by omega,?_⟩
 refine H63 ⟨le1 rfl,le1 rfl,le1 rfl,le1 rfl,le1 rfl,le1 rfl,trivial⟩ (N0 hH) (by repeat (first | exact H4 | refine tail_drop rfl ?_ | refine H5 rfl ?_ | refine A40 _ rfl ?_)) ?_
 rw [←hm2]
 obtain ⟨g2,hg2⟩:∃g2,g2=(cs.take (i+1)).foldl (I8 p file) g:=⟨_,rfl⟩
 rw [←hg2] at hsame ⊢
 intro k o hk
 have h1:=F07 (c:=intsC) (g:=g1) (g':=g2) (pre:=[(4,n9),(730,Y7 names lines n),(731,.arr Int 1 Z1 m2),(732,.growT 114 (lines.length+1) 1 (R4 (lines.length+1)))]) rfl (List.mem_range.2 hC) hsame k o hk
 by_cases hkC:C+1000=k
 ·subst hkC;rw [C7] at h1 ⊢;exact h1
 ·rw [B3 hkC] at h1 ⊢
  by_cases h7:708=k
  ·subst h7
   have:C2 ([(4,n9),(730,Y7 names lines n),(731,.arr Int 1 Z1 m2),(732,.growT 114 (lines.length+1) 1 (R4 (lines.length+1)))]++H1 intsC g1 (List.range (lines.length+1))) 708=none:=by
    rw [I1 rfl];exact H30 (by omega)
   rw [this] at h1;cases h1
  ·rw [B3 h7];exact h1
abbrev x1 (names:List Str) (lines ms:List Int) (gs:List (List (List Int))) (n:Nat) (rows:List Row):Obs :=
 [(4,n9),(730,.box [.p (.list Str 1 J9 names),.p (.list Int 1 F5 lines),.p (.list Int 1 Z1 ms),.p (.list (List (List Int)) 1 intssC gs),.p (.v (.int .i64 n)),.buf 733 Row 3 rowC rows]),(733,.spare rows.length 3 69)]
set_option maxHeartbeats 1000000
theorem G01 {gf:Fr} (names file:List Str) (lines ms:List Int) (g:Nat→List (List Int)) (n B:Nat) (hl:file.length≤4096) (hll:lines.length=file.length) (hms:ms.length=file.length) (hn:1≤n∧n≤32) (hB:n*B≤4096)
  (hg:∀k,(g k).length=n∧∀x∈g k,x.length≤B∧∀v∈x,0≤v∧v < (names.length:Int)) (hnm:∀k,k < file.length→0≤lines.getD k 0∧names[(lines.getD k 0).toNat]?=some (file.getD k [])) :
  AL.Met Tryz.prog 176 [.one (.ref 730 0)] gf (x1 names lines ms ((List.range (file.length+1)).map g) n []) [708,733]
   (fun rs ob'=>rs=[.one (.p (.v (.int .i64 0)))]∧ob'=x1 names lines ms ((List.range (file.length+1)).map g) n (U0 names file (ms,g) (file.length+1))):=by
 obtain ⟨gs,hgs⟩:∃gs,gs=(List.range (file.length+1)).map g:=⟨_,rfl⟩
 have hgl:gs.length=file.length+1:=by rw [hgs];simp
 obtain ⟨R,hR⟩:∃R:Nat→List Row,R=fun k=>U0 names file (ms,g) k:=⟨_,rfl⟩
 obtain ⟨F,hF⟩:∃F:Merged→Row,F=fun m=>⟨true,m.Parents,names.getD m.Line.toNat []⟩:=⟨_,rfl⟩
 have hcs:∀k,(E9 (g k)).1.length≤4096∧∀m∈(E9 (g k)).1,(0≤m.Parents∧m.Parents < 4294967296)∧0≤m.Line∧m.Line < (names.length:Int):=fun k=>by
  have h3:=A14 (fun v=>0≤v∧v < (names.length:Int)) B (g k) (hg k).2
  rw [(hg k).1] at h3
  exact ⟨by omega,h3.2⟩
 have hR1:∀k,R (k+1)=R k++((E9 (g k)).1.map F++(if k < file.length then [⟨false,ms.getD k 0,file.getD k []⟩] else [])):=fun k=>by
  rw [hR];dsimp only;rw [a7,U9,hF]
 have hRl:∀k,(R k).length≤k*4097:=fun k=>by
  induction k with
  | zero=>rw [hR];simp [U0]
  | succ k ih=>rw [hR1];have:=(hcs k).1;simp only [H95,I19];split<;>simp<;>omega
 have hRn:U0 names file (ms,g) (file.length+1)=R (file.length+1):=by rw [hR]
 rw [hRn,←hgs]
 have hR0:R 0=[]:=by rw [hR];rfl
 refine AL.Met.introH Tryz.func176 (by decide) rfl rfl rfl (fun hH=>?_)
 refine k2 ?_
 refine A3 (A2 (A5 Z Z) Z (A6 ?_))
 refine k1 (k2 (k2 ?_))
 refine A3 (A2 (A4 Z Z) Z (A2 (D3 Z) Z (A2 (A7 Z) Z (A2 (A8 Z Z Z) Z (A2 (D4 Z (.pure _ _ _ _)) Z (A2 (A4 Z Z) Z (A6 ?_)))))))
 refine k1 (k3 ?_)
 refine G4 (H81 [708,733] (l:=[(0,.s (.one (.ref 730 0))),(12,C0 (List (List Int)) 1 intssC gs),(13,B7 gs.length),(14,B7 0)]) (ob':=x1 names lines ms gs n []) ⟨le1 rfl,le1 rfl,le1 rfl,le1 rfl,trivial⟩ hH (by repeat (first | exact H4 | refine H5 rfl ?_)) (fun _ _ h=>h)) ?_
 refine C9 (X:=Nat) (fun k=>([(0,.s (.one (.ref 730 0))),(12,C0 (List (List Int)) 1 intssC gs),(13,B7 gs.length),(14,B7 k)]++E4 [708,733] gf,x1 names lines ms gs n (R k))) (fun k=>k≤file.length+1) (fun k=>file.length+1 - k) 0 (Nat.zero_le _) (by rw [hR0];exact H80 fun _ _ h=>h) ?_
 intro k hk
 dsimp only at hk ⊢
 have hRk:=hRl k
 refine k2 ?_
 refine A3 (A2 (D8 Z Z) Z (A6 ?_))
 refine k1 (k2 ?_)
 refine B4 rfl (fun ht=>?_) (fun ht=>?_)
 rotate_left
 ·have hkl:k=file.length+1:=by have:=A1 ht;omega
  rw [hkl]
  refine k6 (k2 ?_)
  refine A3 (A2 (A5 Z Z) Z (A6 ?_))
  refine k1 (k10 ?_)
  exact l9 (B83 rfl rfl) (by repeat (first | exact H4 | refine H5 rfl ?_)) (fun _ _ h=>h) ⟨rfl,rfl⟩
 have hlt:k < file.length+1:=by have:=A0 ht;omega
 have hgv:gs[k]?=some (g k):=by rw [hgs,I20,I23 hlt];rfl
 have hck:=hcs k
 have hgk:=hg k
 have hC:=E66 (g k) B (by omega) (by omega) (fun x hx=>(hgk.2 x hx).1) (by rw [hgk.1];exact hB)
 have hRs:=hR1 k
 obtain ⟨l,hld⟩:∃l,l=(E9 (g k)).1:=⟨_,rfl⟩
 rw [←hld] at hck hC hRs
 refine k5 (k1 (k2 (k3 (k2 ?_))))
 refine A3 (A2 (A4 Z Z) Z (A2 (B0 Z (.pure _ _ _ _) Z (by omega) hgv) Z (A2 (B2 Z Z) Z (A2 (A5 Z Z) Z (A2 (A5 Z Z) Z (A6 ?_))))))
 refine k1 (k2 ?_)
 refine A3 (A2 (A4 Z Z) Z (C3 (hC) Z Z Z ?_));rintro _ rfl;refine A2 (A4 Z Z) Z (A2 (D5 Z Z) Z (A2 (D5 Z Z) Z (A2 (A5 Z Z) Z (A2 (A5 Z Z) Z (A6 ?_)))))
 refine k1 (k2 (k2 ?_))
 refine A3 (A2 (A4 Z Z) Z (A2 (O3 Z Z) Z (A6 ?_)))
 refine k1 ?_
 refine B4 rfl (fun ht=>?_) (fun ht=>?_)
 ·cases ht
 refine k5 (k1 (k2 (k2 ?_)))
 refine A3 (A2 (A4 Z Z) Z (A2 (D4 Z (.pure _ _ _ _)) Z (A2 (A4 Z Z) Z (A6 ?_))))
 refine k1 (k3 ?_)
 refine C9 (X:=Nat) (fun i=>([(0,.s (.one (.ref 730 0))),(3,B7 k),(12,C0 (List (List Int)) 1 intssC gs),(13,B7 gs.length),(14,B7 k),(27,C0 Merged 2 mergedC l),(28,B7 l.length),(29,B7 i)]++E4 [708,733] gf,x1 names lines ms gs n (R k++(l.take i).map F))) (fun i=>i≤l.length) (fun i=>l.length - i) 0 (Nat.zero_le _) ?_ ?_
 ·dsimp only
  rw [List.take_zero,I25,I14]
  exact H63 ⟨le1 rfl,le1 rfl,le1 rfl,le1 rfl,le1 rfl,le1 rfl,le1 rfl,le1 rfl,trivial⟩ (N0 hH) (by repeat (first | exact H4 | refine H5 rfl ?_)) (fun _ _ h=>h)
 intro i hi
 dsimp only at hi ⊢
 have hil:(R k++(l.take i).map F).length≤k*4097+4096:=by simp only [H95,I19,I13];omega
 refine k2 ?_
 refine A3 (A2 (D8 Z Z) Z (A6 ?_))
 refine k1 (k2 ?_)
 refine B4 rfl (fun ht=>?_) (fun ht=>?_)
 ·have hli:i < l.length:=by have:=A0 ht;omega
  have hlv:l[i]?=some l[i]:=by simp [hli]
  have hlb:=hck.2 l[i] (I07 hli)
  have hst:(l.take (i+1)).map F=(l.take i).map F++[F l[i]]:=by rw [I04 hli];simp only [I09,I05,I25]
  obtain ⟨m,hm⟩:∃m,m=l[i]:=⟨_,rfl⟩
  rw [←hm] at hlv hlb hst
  have hnv:names[m.Line.toNat]?=some (names.getD m.Line.toNat []):=by rw [I00,H97 (by omega)];rfl
  have hFi:F m=⟨true,m.Parents,names.getD m.Line.toNat []⟩:=by rw [hF]
  obtain ⟨Q,hQ⟩:∃Q,Q=R k++(l.take i).map F:=⟨_,rfl⟩
  rw [←hQ] at hil ⊢
  refine k5 (k1 (k2 (k3 (k2 ?_))))
  refine A3 (A2 (B0 Z (.pure _ _ _ _) Z (by omega) hlv) Z (A2 (E8 Z Z) Z (C1 (E48 708 Z (by decide)) Z (F6 (B8 TySz.out Z Z Z Z Z Z) (A6 ?_)))))
  refine k1 ?_
  refine L1 ([(0,.s (.one (.ref 730 0))),(3,B7 k),(8,.s (.one (.ref 708 0))),(12,C0 (List (List Int)) 1 intssC gs),(13,B7 gs.length),(14,B7 k),(27,C0 Merged 2 mergedC l),(28,B7 l.length),(29,B7 i)]++E4 [708,733] gf) ((708,.box [.p (.v (.int .i64 m.Line)),.p (.v (.int .u32 m.Parents))])::x1 names lines ms gs n Q) (H63 ⟨le1 rfl,le1 rfl,le1 rfl,le1 rfl,le1 rfl,le1 rfl,le1 rfl,le1 rfl,le1 rfl,trivial⟩ (N0 hH) (by repeat (first | exact H4 | refine H5 rfl ?_ | refine A40 _ rfl ?_)) (ObIn.spec (ob':=(708,.box [.p (.v (.int .i64 m.Line)),.p (.v (.int .u32 m.Parents))])::x1 names lines ms gs n Q) ⟨rfl,rfl,rfl,rfl,trivial⟩)) ?_
  refine S2 [22,18] [[],[18],[22,18]] [(18,([733],[38])),(22,([],[]))] [(0,[]),(1,[]),(2,[]),(3,[]),(4,[]),(5,[]),(6,[]),(7,[]),(8,[]),(9,[]),(10,[]),(11,[]),(12,[]),(13,[]),(14,[]),(15,[]),(16,[]),(17,[]),(18,[]),(19,[18]),(20,[18]),(21,[18]),(22,[18])] [(0,[18])] (by kernel_rfl) (by kernel_rfl) (D9 Z Z (by kernel_rfl) Z Z (A4 Z Z) (D9 Z Z (by kernel_rfl) Z Z (A4 Z Z) (D9 Z Z (by kernel_rfl) Z Z (D3 Z) (D9 Z Z (by kernel_rfl) Z Z (A7 Z) (D9 Z Z (by kernel_rfl) Z Z (A7 Z) (D9 Z Z (by kernel_rfl) Z Z (A8 Z Z Z) (D9 Z Z (by kernel_rfl) Z Z (A7 Z) (D9 Z Z (by kernel_rfl) Z Z (A8 Z Z Z) (D9 Z Z (by kernel_rfl) Z Z (A4 Z Z) (D9 Z Z (by kernel_rfl) Z Z (D3 Z) (D9 Z Z (by kernel_rfl) Z Z (A7 Z) (D9 Z Z (by kernel_rfl) Z Z (A8 Z Z Z) (D9 Z Z (by kernel_rfl) Z Z (A7 Z) (D9 Z Z (by kernel_rfl) Z Z (A8 Z Z Z) (D9 Z Z (by kernel_rfl) Z Z (B0 Z (.pure _ _ _ _) Z (by omega) hnv) (D9 Z Z (by kernel_rfl) Z Z (B2 Z Z) (D9 Z Z (by kernel_rfl) Z Z (G6 Z) (D9 Z Z (by kernel_rfl) Z Z (C8 (c:=rowC) (ys:=[⟨true,m.Parents,names.getD m.Line.toNat []⟩]) (D7 Z Z Z Z E7) Z Z Z) (X3 Z Z (by kernel_rfl) Z Z (C25 (fun frc hU=>F3 (V0 hU Z) Z (V0 hU Z) (.pure _ _ _ _) (by (simp only [H96,H98];omega)) Z)) Z (D9 Z Z (by kernel_rfl) Z Z (D3 Z) (D9 Z Z (by kernel_rfl) Z Z (A7 Z) (D9 Z Z (by kernel_rfl) Z Z (A7 Z) (X3 Z Z (by kernel_rfl) Z Z (D20 (fun frc hU=>B8 TySz.out (V0 hU Z) Z (V0 hU Z) Z Z Z)) Z ?_)))))))))))))))))))))));refine w_nilG rfl (by kernel_rfl) rfl ?_ ?_
  ·refine I3 Z Z (by kernel_rfl) Z Z (A4 Z Z) ?_;exact C51
  refine k4 (k1 ?_)
  refine A3 (A2 (B9 Z Z (by omega)) Z (A2 (A4 Z Z) Z (A6 ?_)))
  refine k1 ?_
  refine ⟨i+1,by omega,by omega,?_⟩
  rw [hst,hFi,←I06,←hQ]
  exact H63 ⟨le1 rfl,le1 rfl,le1 rfl,le1 rfl,le1 rfl,le1 rfl,le1 rfl,le1 rfl,trivial⟩ (N0 hH) (by repeat (first | exact H4 | refine tail_drop rfl ?_ | refine H5 rfl ?_ | refine A40 _ rfl ?_)) (ObIn.spec (ob':=x1 names lines ms gs n (Q++[⟨true,m.Parents,names.getD m.Line.toNat []⟩])) ⟨rfl,rfl,rfl,trivial⟩)
 have hil2:i=l.length:=by have:=A1 ht;omega
 rw [hil2,I16] at hil ⊢
 rw [←I06] at hRs
 obtain ⟨Q,hQ⟩:∃Q,Q=R k++l.map F:=⟨_,rfl⟩
 rw [←hQ] at hil hRs ⊢
 refine k6 (k2 ?_)
 ·skip
  refine A3 (A2 (A4 Z Z) Z (A2 (A4 Z Z) Z (A2 (D3 Z) Z (A2 (A7 Z) Z (A2 (A8 Z Z Z) Z (A2 (D4 Z (.pure _ _ _ _)) Z (A2 (D8 Z Z) Z (A6 ?_))))))))
  refine k1 ?_
  refine B4 rfl (fun ht=>?_) (fun ht=>?_)
  ·have hkf:k < file.length:=by have:=A0 ht;omega
   rw [if_pos hkf] at hRs
   obtain ⟨q1,q2⟩:=hnm k hkf
   have hmv:ms[((k:Nat):Int).toNat]?=some (ms.getD k 0):=by rw [I03,I00,H97 (by omega)];rfl
   have hlv:lines[((k:Nat):Int).toNat]?=some (lines.getD k 0):=by rw [I03,I00,H97 (by omega)];rfl
   have q3:=(List.getElem?_eq_some_iff.1 q2).1
   skip
   refine L1 ([(0,.s (.one (.ref 730 0))),(3,B7 k),(12,C0 (List (List Int)) 1 intssC gs),(13,B7 gs.length),(14,B7 k)]++E4 [708,733] gf) (x1 names lines ms gs n Q) (H63 ⟨le1 rfl,le1 rfl,le1 rfl,le1 rfl,le1 rfl,trivial⟩ (N0 hH) (by repeat (first | exact H4 | refine H5 rfl ?_)) (fun _ _ h=>h)) ?_
   refine S2 [32,28] [[],[28],[32,28]] [(28,([733],[68])),(32,([],[]))] [(0,[]),(1,[]),(2,[]),(3,[]),(4,[]),(5,[]),(6,[]),(7,[]),(8,[]),(9,[]),(10,[]),(11,[]),(12,[]),(13,[]),(14,[]),(15,[]),(16,[]),(17,[]),(18,[]),(19,[]),(20,[]),(21,[]),(22,[]),(23,[]),(24,[]),(25,[]),(26,[]),(27,[]),(28,[]),(29,[28]),(30,[28]),(31,[28]),(32,[28])] [(0,[28])] (by kernel_rfl) (by kernel_rfl) (D9 Z Z (by kernel_rfl) Z Z (A4 Z Z) (D9 Z Z (by kernel_rfl) Z Z (A4 Z Z) (D9 Z Z (by kernel_rfl) Z Z (D3 Z) (D9 Z Z (by kernel_rfl) Z Z (A7 Z) (D9 Z Z (by kernel_rfl) Z Z (A7 Z) (D9 Z Z (by kernel_rfl) Z Z (A8 Z Z Z) (D9 Z Z (by kernel_rfl) Z Z (A4 Z Z) (D9 Z Z (by kernel_rfl) Z Z (D3 Z) (D9 Z Z (by kernel_rfl) Z Z (A7 Z) (D9 Z Z (by kernel_rfl) Z Z (A8 Z Z Z) (D9 Z Z (by kernel_rfl) Z Z (A4 Z Z) (D9 Z Z (by kernel_rfl) Z Z (B0 Z (.pure _ _ _ _) Z (by omega) hmv) (D9 Z Z (by kernel_rfl) Z Z (B2 Z Z) (D9 Z Z (by kernel_rfl) Z Z (A4 Z Z) (D9 Z Z (by kernel_rfl) Z Z (D3 Z) (D9 Z Z (by kernel_rfl) Z Z (A7 Z) (D9 Z Z (by kernel_rfl) Z Z (A8 Z Z Z) (D9 Z Z (by kernel_rfl) Z Z (A4 Z Z) (D9 Z Z (by kernel_rfl) Z Z (D3 Z) (D9 Z Z (by kernel_rfl) Z Z (A7 Z) (D9 Z Z (by kernel_rfl) Z Z (A8 Z Z Z) (D9 Z Z (by kernel_rfl) Z Z (A4 Z Z) (D9 Z Z (by kernel_rfl) Z Z (B0 Z (.pure _ _ _ _) Z (by omega) hlv) ?_)))))))))))))))))))))));refine D9 Z Z (by kernel_rfl) Z Z (B2 Z Z) (D9 Z Z (by kernel_rfl) Z Z (B0 Z (.pure _ _ _ _) Z (by omega) q2) (D9 Z Z (by kernel_rfl) Z Z (B2 Z Z) (D9 Z Z (by kernel_rfl) Z Z (G6 Z) (D9 Z Z (by kernel_rfl) Z Z (C8 (c:=rowC) (ys:=[⟨false,ms.getD k 0,file.getD k []⟩]) (D7 Z Z Z Z E7) Z Z Z) (X3 Z Z (by kernel_rfl) Z Z (C25 (fun frc hU=>F3 (V0 hU Z) Z (V0 hU Z) (.pure _ _ _ _) (by (simp only [H96,H98];omega)) Z)) Z (D9 Z Z (by kernel_rfl) Z Z (D3 Z) (D9 Z Z (by kernel_rfl) Z Z (A7 Z) (D9 Z Z (by kernel_rfl) Z Z (A7 Z) (X3 Z Z (by kernel_rfl) Z Z (D20 (fun frc hU=>B8 TySz.out (V0 hU Z) Z (V0 hU Z) Z Z Z)) Z ?_)))))))))
   refine w_nilG rfl (by kernel_rfl) rfl ?_ ?_
   ·refine I3 Z Z (by kernel_rfl) Z Z (A4 Z Z) ?_;exact C51
   refine k4 (k1 ?_)
   refine A3 (A2 (B9 Z Z (by omega)) Z (A2 (A4 Z Z) Z (A6 ?_)))
   refine k1 ?_
   refine ⟨k+1,by omega,by omega,?_⟩
   rw [hRs]
   exact H63 ⟨le1 rfl,le1 rfl,le1 rfl,le1 rfl,trivial⟩ (N0 hH) (by repeat (first | exact H4 | refine tail_drop rfl ?_ | refine H5 rfl ?_ | refine A40 _ rfl ?_)) (ObIn.spec (ob':=x1 names lines ms gs n (Q++[⟨false,ms.getD k 0,file.getD k []⟩])) ⟨rfl,rfl,rfl,trivial⟩)
  ·have hkf:¬k < file.length:=by have:=A1 ht;omega
   rw [if_neg hkf,I14] at hRs
   refine k5 (k4 (k1 ?_))
   refine A3 (A2 (B9 Z Z (by omega)) Z (A2 (A4 Z Z) Z (A6 ?_)))
   refine k1 ?_
   refine ⟨k+1,by omega,by omega,?_⟩
   rw [hRs]
   exact H63 ⟨le1 rfl,le1 rfl,le1 rfl,le1 rfl,trivial⟩ (N0 hH) (by repeat (first | exact H4 | refine tail_drop rfl ?_ | refine H5 rfl ?_ | refine A40 _ rfl ?_)) (fun _ _ h=>h)
theorem G02 (l:List Str) (s:Str):∀k:Int,0≤k→s∈l→l[(H7 l s k - k).toNat]?=some s:=by
 induction l with
 | nil=>intro k _ h;cases h
 | cons x r ih =>
  intro k h0 h
  by_cases hx:x=s
  ·unfold H7
   rw [if_pos hx,Int.sub_self,hx];rfl
  ·have hm:s∈r:=by rcases List.mem_cons.1 h with rfl | h;exact absurd rfl hx;exact h
   have h1:=ih (k+1) (by omega) hm
   have h2:=B64 r s (k+1) (by omega) hm
   unfold H7
   rw [if_neg hx,show (H7 r s (k+1) - k).toNat=(H7 r s (k+1) - (k+1)).toNat+1 by omega,List.getElem?_cons_succ]
   exact h1
theorem F33 (k:Nat):(R4 k++[TC.mut 734]).map (TC.ren 734 (k+1000))=R4 (k+1):=by
 unfold R4 I9
 rw [I09,I31,I09,I32]
 have h1:(List.range k).map (TC.ren 734 (k+1000) ∘ fun r=>if r < 0 then TC.p (.list (List Int) 1 intsC []) else TC.mut (r+1000))=(List.range k).map fun r=>if r < 0 then TC.p (.list (List Int) 1 intsC []) else TC.mut (r+1000):=by
  refine List.map_congr_left fun r hr=>?_
  show TC.ren 734 (k+1000) (if r < 0 then _ else TC.mut (r+1000))=_
  rw [if_neg (by omega)]
  simp [TC.ren,I0 (show r+1000≠734 by omega)]
 exact congr (congrArg _ h1) (by simp [TC.ren])
abbrev E67 (n:Nat):Nat→List (List Int):=fun _=>List.replicate n []
theorem H43 {k:Nat} (hk:k < 1000) {m:Nat} {g:Nat→List (List Int)}:H0 k (H1 intsC g (List.range m))=true:=A36 (k:=k) (by omega) (List.range m) (fun r _=>by omega) (c:=intsC) (g:=g)
abbrev G62 (names:List Str) (lines ms:List Int) (n k:Nat):Obs:=[(4,n9),(730,Y7 names lines n),(731,.arr Int 1 Z1 ms),(732,.growT 114 k 1 (R4 k))]
theorem E68 (k:Nat):(R4 k).all (TC.free (k+1000))=true:=by
 rw [List.all_eq_true]
 intro t ht
 obtain ⟨r,hr,rfl⟩:=List.mem_map.1 ht
 have:=List.mem_range.1 hr
 rw [if_neg (by omega)]
 simp [TC.free,I0 (show r+1000≠k+1000 by omega)]
theorem G03 (m:Nat) (g:Nat→List (List Int)):R4 m=I9 intsC m 0 g:=by
 unfold R4 I9
 refine List.map_congr_left fun r _=>?_
 rw [if_neg (by omega),if_neg (by omega)]
theorem G04 (q:Nat) (g:Nat→List (List Int)) (l:List Nat):Obs.forget q (H1 intsC g l)=H1 intsC g l:=by
 unfold Obs.forget H1
 rw [I32]
 exact List.map_congr_left fun r _=>rfl
theorem gap_fgt {K:List Nat} {q:Nat} {g:Nat→List (List Int)} {l:List Nat}:∀j x,S5 K j=false→C2 (H1 intsC g l) j=some x→C2 (Obs.forget q (H1 intsC g l)) j=some x:=fun j x _ h=>by rw [G04];exact h
theorem D32 (q:Nat) (names:List Str) (lines ms:List Int) (n k:Nat) (hq:q < 1000) (h1:4≠q) (h2:730≠q) (h3:731≠q) (h4:732≠q) (g:Nat→List (List Int)):H0 q (G62 names lines ms n k++H1 intsC g (List.range k))=true:=by
 show H0 q ((4,n9)::(730,Y7 names lines n)::(731,.arr Int 1 Z1 ms)::(732,.growT 114 k 1 (R4 k))::H1 intsC g (List.range k))=true
 simp only [H0,Ob.free,List.all_cons,List.all_nil,TC.free,H43 hq,B05 hq,I0 h1,I0 h2,I0 h3,I0 h4,I0 (Ne.symm h3),I0 (Ne.symm h4)]
 rfl
theorem G97 {P:Program} {nt:Nat} {fr:Fr} {names:List Str} {lines ms:List Int} {n k:Nat} (hk:k≤100000) (hfr:F9 (k+1000) fr=true) :
  Sees P nt fr ([(4,n9),(730,Y7 names lines n),(731,.arr Int 1 Z1 ms),(732,.growT 114 (k+1) 1 (R4 k++[TC.mut 734])),(734,.arr (List Int) 1 intsC (List.replicate n [])),(735,.tarr 1 1 [.mut 734])]++H1 intsC (E67 n) (List.range k))
   fr (G62 names lines ms n (k+1)++H1 intsC (E67 n) (List.range (k+1))):=by
 refine H90 (j:=734) (k:=k+1000) Z (by simp;omega) (by omega) hfr ?_
 intro i o h
 have b731:=I0 (show 731≠k+1000 by omega)
 have b732:=I0 (show 732≠k+1000 by omega)
 have b734:=I0 (show 734≠k+1000 by omega)
 by_cases e1:i=4
 ·subst e1
  have h:some n9=some o:=h
  cases h
  exact ⟨by omega,n9,by rw [if_neg (by omega)];rfl,rfl,rfl⟩
 by_cases e2:i=730
 ·subst e2
  have h:some (Y7 names lines n)=some o:=h
  cases h
  exact ⟨by omega,Y7 names lines n,by rw [if_neg (by omega)];rfl,by simp [Ob.free,TC.free,b731,b732],rfl⟩
 by_cases e3:i=731
 ·subst e3
  have h:some (.arr Int 1 Z1 ms)=some o:=h
  cases h
  exact ⟨by omega,_,by rw [if_neg (by omega)];rfl,rfl,rfl⟩
 by_cases e4:i=732
 ·subst e4
  have h:some (.growT 114 (k+1) 1 (R4 (k+1)))=some o:=h
  cases h
  refine ⟨by omega,.growT 114 (k+1) 1 (R4 k++[TC.mut 734]),by rw [if_neg (by omega)];rfl,?_,?_⟩
  ·simp only [Ob.free,I43,E68,List.all_cons,List.all_nil,TC.free,b734];rfl
  ·show _=Ob.growT _ _ _ _
   rw [F33]
 have h:C2 ([(4,n9),(730,Y7 names lines n),(731,.arr Int 1 Z1 ms),(732,.growT 114 (k+1) 1 (R4 (k+1)))]++H1 intsC (E67 n) (List.range (k+1))) i=some o:=h
 have hno:C2 ([(4,n9),(730,Y7 names lines n),(731,.arr Int 1 Z1 ms),(732,.growT 114 (k+1) 1 (R4 (k+1)))]:Obs) i=none:=by
  rw [B3 (Ne.symm e1),B3 (Ne.symm e2),B3 (Ne.symm e3),B3 (Ne.symm e4)];rfl
 rw [I1 hno] at h
 obtain ⟨r,h1,rfl,rfl⟩:=(Y1 _ _ _).1 h
 have h1:=List.mem_range.1 h1
 refine ⟨by omega,.arr (List Int) 1 intsC (List.replicate n []),?_,rfl,rfl⟩
 by_cases er:r=k
 ·subst er;rw [if_pos rfl];rfl
 ·rw [if_neg (by omega),I1 (d8 rfl (by omega))]
  exact l8 (List.mem_range.2 (by omega))
set_option maxHeartbeats 2000000
theorem H44 (result:Str) (parents:List Str) (B:Nat) (hpl:parents.length≤536870912) (hB:32*B≤4096) (h0:(C4 result).length≤B∧result.length≤4096) (h1:∀b∈parents,(C4 b).length≤B∧b.length≤4096) :
  FnOk Tryz.prog 97 [L4 result,t6 parents] (fun rs=>rs=[pTable (M5 result parents).1,G8 (M5 result parents).2]):=by
 refine FnOk.intro Tryz.func97 (by decide) Z Z Z Z ?_
 refine k2 ?_
 refine A3 (C1 (G3 4 Z) Z (A2 (A5 Z Z) Z (A6 ?_)))
 refine k1 (k2 ?_)
 refine A3 (A2 (A4 Z Z) Z (A2 (D4 Z (.pure _ _ _ _)) Z (A2 (A5 Z Z) Z (A6 ?_))))
 refine k1 (k2 (k2 ?_))
 refine A3 (A2 (A4 Z Z) Z (A2 (D8 Z Z) Z (A2 (A4 Z Z) Z (B1 Z Z Z Z (fun hg=>by rw [hg];exact A4 Z Z) ?_))));refine B1 Z Z Z Z (fun hg=>by rw [hg];exact M7 Z Z) ?_;refine A2 (B6 Z (fun h=>by first | rfl | (rw [h];rfl)) (fun h=>by first | rfl | (rw [h];rfl))) Z ?_;refine A6 ?_
 refine k1 ?_
 refine B4 rfl (fun ht=>?_) (fun ht=>?_)
 ·have hc:=A0 (or_pick.symm.trans ht)
  refine k2 ?_
  refine A3 (A2 (G6 Z) Z (F6 (B8 TySz.out Z Z Z Z Z Z) (A2 (A5 Z Z) Z (A6 ?_))))
  refine k1 ?_
  refine G4 (H65 Row 3 rowC 4 1 Z Z) ?_
  refine k10 (k11 ?_)
  exact B5 (rs:=[pTable ⟨0,[]⟩,G8 2]) (c9 rfl rfl rfl rfl rfl rfl rfl) (by rw [M5,if_pos (by omega)])
 have hc:=A1 (or_pick.symm.trans ht)
 obtain ⟨n,hn⟩:∃n,n=parents.length:=⟨_,rfl⟩
 have hn1:1≤n∧n≤32:=by omega
 obtain ⟨f0,hf0⟩:∃f0,f0=C4 result:=⟨_,rfl⟩
 obtain ⟨fs,hfs⟩:∃fs,fs=C4 result::parents.map C4:=⟨_,rfl⟩
 have hfsm:fs=(result::parents).map C4:=by rw [hfs];rfl
 have hfl:fs.length=n+1:=by rw [hfs,hn];simp
 have hfB:∀f∈fs,f.length≤B:=by
  intro f hf
  rw [hfs] at hf
  rcases List.mem_cons.1 hf with rfl | hf
  ·exact h0.1
  ·obtain ⟨b,hb,rfl⟩:=List.mem_map.1 hf;exact (h1 b hb).1
 have hflat:fs.flatten.length≤(n+1)*B:=by
  rw [←hfl]
  clear hfsm hfs hfl
  induction fs with
  | nil=>simp
  | cons x r ih =>
   have:=ih fun f hf=>hfB f (List.mem_cons_of_mem _ hf)
   have:=hfB x (by simp)
   rw [I11,H95,H96,I18,Nat.one_mul];omega
 have hnB:n*B≤4096:=Nat.le_trans (I08 _ hn1.2) hB
 have hB1:(n+1)*B≤8192:=by rw [I18,Nat.one_mul];omega
 obtain ⟨names,hnames⟩:∃names,names=E1 fs:=⟨_,rfl⟩
 obtain ⟨ids,hids⟩:∃ids,ids=fs.map (K3 names):=⟨_,rfl⟩
 have hidl:ids.length=n+1:=by rw [hids,I19,hfl]
 obtain ⟨base,hbase⟩:∃base,base=K3 names f0:=⟨_,rfl⟩
 have hb0:base=ids.getD 0 []:=by rw [hids,hfs,hbase,hf0];rfl
 have hbl:base.length=f0.length:=by rw [hbase];simp [K3]
 have hf0B:f0.length≤B:=by rw [hf0];exact h0.1
 have hidB:∀x∈ids,x.length≤B∧∀v∈x,0≤v∧v < (names.length:Int):=by
  intro x hx
  have h2:∀v∈x,0≤v∧v < (names.length:Int):=by rw [hnames];exact ids_in fs x (by rw [←hnames,←hids];exact hx)
  rw [hids] at hx
  obtain ⟨f,hf,rfl⟩:=List.mem_map.1 hx
  exact ⟨by rw [K3,I19];exact hfB f hf,h2⟩
 have hv0:ids[(0:Int).toNat]?=some base:=by rw [hb0,I00];show ids[0]?=_;rw [H97 (by omega)];rfl
 have hsame:=fun p hp=>E37 (n:=n) hb0 (fun x hx=>by have:=(hidB x hx).1;omega) (by omega) p hp
 have hok:∀p,LoomOk (fun v=>0≤v∧v < (names.length:Int)) B base.length n (P9 ids base.length n p):=fun p=>B29 hidB p
 have hmk:M5 result parents=(⟨n,U0 names f0 (P9 ids base.length n n) (f0.length+1)⟩,0):=by
  rw [M5,if_neg (by omega)]
  dsimp only
  rw [←hfs,←hnames,←hids,←hf0,←hn,←hbl]
  rw [if_neg]
  rintro ⟨k,hk,hk2⟩
  refine hk2 ?_
  have h3:=(hok n).gaps k
  unfold E9
  rw [if_neg (by omega)]
  exact A76 _ _ _ B (fun x hx=>(h3.2 x hx).1) (by rw [h3.1];simp only [H98];omega)
 rw [hmk]
 refine L1 [(0,R3 result),(1,C0 Str 1 J9 parents),(4,.s (.one (.ref 4 0))),(6,B7 n)] [(4,n9)] (by rw [hn];exact H62 ⟨le1 rfl,le1 rfl,le1 rfl,le1 rfl,trivial⟩ ⟨rfl,trivial⟩) ?_
 refine k5 (k1 (k2 ?_))
 refine A3 (C1 (S8 760 _ strsC Z) Z (A6 ?_))
 refine k1 (k2 (k2 ?_))
 obtain ⟨bl,hbld⟩:∃bl,bl=result::parents:=⟨_,rfl⟩
 have hbll:bl.length=n+1:=by rw [hbld,hn];simp
 refine A3 (A2 (A4 Z Z) Z (A2 (n8 (c:=J9) (ys:=[result]) (D7 Z Z Z Z E7) Z Z Z) Z (A2 (A4 Z Z) Z (A2 (m6 Z Z (.pure _ _ _ _) (by (simp only [H96,H98];omega)) ((by omega))) Z (A2 (D4 Z (.pure _ _ _ _)) Z (A2 (A4 Z Z) Z (A6 ?_)))))))
 refine k1 (k3 ?_)
 rw [show [result]++parents=bl by rw [hbld];rfl]
 have hblB:∀b∈bl,(C4 b).length≤B∧b.length≤4096:=by
  intro b hb
  rw [hbld] at hb
  rcases List.mem_cons.1 hb with rfl | hb
  ·exact h0
  ·exact h1 b hb
 have hfsb:fs=bl.map C4:=by rw [hfsm,hbld]
 refine C9 (X:=Nat) (fun k=>([(4,.s (.one (.ref 4 0))),(6,B7 n),(7,.s (.one (.buf 760 (List Str) 1 strsC ((bl.take k).map C4)))),(29,C0 Str 1 J9 bl),(30,B7 bl.length),(31,B7 k)],[(4,n9),(760,.spare ((bl.take k).map C4).length 1 76)])) (fun k=>k≤bl.length) (fun k=>bl.length - k) 0 (Nat.zero_le _) (H62 ⟨le1 rfl,le1 rfl,le1 rfl,le1 rfl,le1 rfl,le1 rfl,trivial⟩ ⟨rfl,rfl,trivial⟩) ?_
 intro k hk
 dsimp only at hk ⊢
 have hml:((bl.take k).map C4).length=k:=by rw [I19,I13];omega
 refine k2 ?_
 refine A3 (A2 (D8 Z Z) Z (A6 ?_))
 refine k1 (k2 ?_)
 refine B4 rfl (fun ht=>?_) (fun ht=>?_)
 ·have hlt:k < bl.length:=by have:=A0 ht;omega
  have hv:bl[k]?=some bl[k]:=by simp [hlt]
  have hbB:=hblB _ (I07 hlt)
  have hst:(bl.take (k+1)).map C4=(bl.take k).map C4++[C4 bl[k]]:=by rw [I04 hlt];simp only [I09,I05,I25]
  obtain ⟨b,hb⟩:∃b,b=bl[k]:=⟨_,rfl⟩
  rw [←hb] at hv hbB hst
  have hsp:=G92 b (by omega)
  rw [D96 hbB.2] at hsp
  dsimp only at hsp
  refine k5 (k1 (k2 (k3 (k2 ?_))))
  refine A3 (A2 (B0 Z (.pure _ _ _ _) Z (by omega) hv) Z (A2 (B2 Z Z) Z (A2 (A5 Z Z) Z (A6 ?_))))
  refine k1 (k2 ?_)
  refine A3 (A2 (A4 Z Z) Z (C3 (hsp) Z Z Z ?_));rintro _ rfl;refine A2 (A4 Z Z) Z (A2 (D5 Z Z) Z (A2 (D5 Z Z) Z (A2 (A5 Z Z) Z (A2 (A5 Z Z) Z (A6 ?_)))))
  refine k1 (k2 (k2 ?_))
  refine A3 (A2 (A4 Z Z) Z (A2 (O3 Z Z) Z (A6 ?_)))
  refine k1 ?_
  refine B4 rfl (fun ht=>?_) (fun ht=>?_)
  ·cases ht
  refine k5 (k1 ?_)
  refine A3 (A2 (A4 Z Z) Z (A2 (A4 Z Z) Z (A2 (C8 (c:=strsC) (ys:=[C4 b]) (D7 Z Z Z Z E7) Z Z Z) Z (C1 (F3 Z Z Z (.pure _ _ _ _) (by (rw [hml];simp only [H96,H98];omega)) Z) Z ?_))));refine A2 (A5 Z Z) Z (A6 ?_)
  refine k4 (k1 ?_)
  refine A3 (A2 (B9 Z Z (by omega)) Z (A2 (A4 Z Z) Z (A6 ?_)))
  refine k1 ?_
  refine ⟨k+1,by omega,by omega,?_⟩
  rw [hst]
  exact H62 ⟨le1 rfl,le1 rfl,le1 rfl,le1 rfl,le1 rfl,le1 rfl,trivial⟩ ⟨rfl,rfl,trivial⟩
 have hkl:k=bl.length:=by have:=A1 ht;omega
 rw [hkl,I16,←hfsb]
 have hI:=E65 fs (by omega) (by omega)
 have hN:=D31 fs (by omega) (by omega)
 rw [←hnames,←hids] at hI
 rw [←hnames] at hN
 refine k6 (k2 ?_)
 refine A3 (A2 (A4 Z Z) Z (C3 (hI) Z Z Z ?_));rintro _ rfl;refine A2 (A5 Z Z) Z (A6 ?_)
 refine G4 (fr':=[(4,.s (.one (.ref 4 0))),(6,B7 n),(7,C0 (List Str) 1 strsC fs),(12,C0 (List Int) 1 intsC ids)]) (ob':=[(4,n9)]) (H62 ⟨le1 rfl,le1 rfl,leL rfl,le1 rfl,trivial⟩ ⟨rfl,trivial⟩) ?_
 refine k2 ?_
 refine S2 [13,9] [[],[9],[13,9]] [(9,([731],[])),(13,([730],[]))] [(0,[]),(1,[]),(2,[]),(3,[]),(4,[]),(5,[]),(6,[]),(7,[]),(8,[]),(9,[]),(10,[]),(11,[]),(12,[9]),(13,[9]),(14,[13,9])] [(0,[9]),(1,[9]),(2,[9]),(3,[9]),(4,[9]),(10,[9]),(11,[9])] (by kernel_rfl) (by kernel_rfl) (D9 Z Z (by kernel_rfl) Z Z (A4 Z Z) (D9 Z Z (by kernel_rfl) Z Z (H6 (hN) Z Z) (D9 Z Z (by kernel_rfl) Z Z (A4 Z Z) (D9 Z Z (by kernel_rfl) Z Z (B0 Z (.pure _ _ _ _) Z (by omega) hv0) (D9 Z Z (by kernel_rfl) Z Z (B2 Z Z) (D9 Z Z (by kernel_rfl) Z Z (A4 Z Z) (D9 Z Z (by kernel_rfl) Z Z (B0 Z (.pure _ _ _ _) Z (by omega) hv0) (D9 Z Z (by kernel_rfl) Z Z (B2 Z Z) (D9 Z Z (by kernel_rfl) Z Z (D4 Z (.pure _ _ _ _)) (X3 Z Z (by kernel_rfl) Z Z (C89 (fun frc hU hk=>V3 731 Int Z1 0 (V0 hU Z) (V0 hU Z) (by omega) (by omega) (fun _=>by first | exact ⟨⟨rfl,rfl⟩,trivial⟩ | exact ⟨M9 _ _ _,trivial⟩) (by rw [hk];rfl))) Z ?_))))))))));refine D9 Z Z (by kernel_rfl) Z Z (A4 Z Z) (D9 Z Z (by kernel_rfl) Z Z (G6 Z) (D9 Z Z (by kernel_rfl) Z Z (G6 Z) (X3 Z Z (by kernel_rfl) Z Z (C89 (fun frc hU hk=>Q4 730 (V0 hU Z) Z (by rw [hk];rfl))) Z ?_)));refine D9 Z Z (by kernel_rfl) Z Z (A5 Z Z) ?_;refine D18 (by kernel_rfl) rfl ?_ ?_
 ·refine I3 Z Z (by kernel_rfl) Z Z (A4 Z Z) (I3 Z Z (by kernel_rfl) Z Z (H6 (hN) Z Z) (I3 Z Z (by kernel_rfl) Z Z (A4 Z Z) (I3 Z Z (by kernel_rfl) Z Z (B0 Z (.pure _ _ _ _) Z (by omega) hv0) (I3 Z Z (by kernel_rfl) Z Z (B2 Z Z) (I3 Z Z (by kernel_rfl) Z Z (A4 Z Z) (I3 Z Z (by kernel_rfl) Z Z (G6 Z) ?_))))));exact C51
 rw [I03]
 refine k1 (k2 (k2 ?_))
 refine G4 (H87 732 (List (List Int)) 1 intssC 114 (kb:=730) (o:=3) Z Z Z) ?_
 refine G4 (H93 732 Z) ?_
 refine A3 (A2 (A4 Z Z) Z (A2 (B0 Z (.pure _ _ _ _) Z (by omega) hv0) Z (A2 (B2 Z Z) Z (A2 (D4 Z (.pure _ _ _ _)) Z (A2 (B9 Z Z (by omega)) Z (A2 (A4 Z Z) Z (A6 ?_)))))))
 refine k1 (k3 ?_)
 refine C9 (X:=Nat) (fun k=>([(4,.s (.one (.ref 4 0))),(6,B7 n),(12,C0 (List Int) 1 intsC ids),(13,.s (.one (.ref 730 0))),(69,B7 ((base.length:Int)+1)),(70,B7 k)],G62 names base (List.replicate base.length 0) n k++H1 intsC (E67 n) (List.range k))) (fun k=>k≤base.length+1) (fun k=>base.length+1 - k) 0 (Nat.zero_le _) (H62 ⟨le1 rfl,le1 rfl,le1 rfl,le1 rfl,le1 rfl,le1 rfl,trivial⟩ ⟨rfl,rfl,rfl,rfl,trivial⟩) ?_
 intro k hk
 dsimp only at hk ⊢
 refine k2 ?_
 refine A3 (A2 (D8 Z Z) Z (A6 ?_))
 refine k1 (k2 ?_)
 refine B4 rfl (fun ht=>?_) (fun ht=>?_)
 ·have hlt:k < base.length+1:=by have:=A0 ht;omega
  have hfree:=D32 734 names base (List.replicate base.length 0) n k (by omega) (by omega) (by omega) (by omega) (by omega) (E67 n)
  have hfree5:H0 735 ((734,.arr (List Int) 1 intsC (List.replicate n []))::(G62 names base (List.replicate base.length 0) n k++H1 intsC (E67 n) (List.range k)))=true:=by
   have:=D32 735 names base (List.replicate base.length 0) n k (by omega) (by omega) (by omega) (by omega) (by omega) (E67 n)
   rw [H0,this];rfl
  have h732:(R4 k++[TC.mut 734]).map (TC.forget 732)=R4 k++[TC.mut 734]:=d6 (by rw [I43,B05 (by omega)];rfl)
  refine k5 (k1 (k2 (k3 ?_)))
  refine S2 [11,8,7,6] [[],[6],[7,6],[8,7,6],[11,8,7,6]] [(6,([734],[])),(7,([735],[])),(8,([732],[76])),(11,([],[]))] [(0,[]),(1,[]),(2,[]),(3,[]),(4,[]),(5,[]),(6,[]),(7,[6]),(8,[7,6]),(9,[8,7,6]),(10,[8,7,6]),(11,[8,7,6])] [(0,[6]),(0,[7,6]),(0,[8,7,6]),(1,[6]),(1,[7,6]),(2,[6]),(2,[7,6]),(3,[6]),(3,[7,6]),(4,[6]),(4,[7,6])] (by kernel_rfl) (by kernel_rfl) (D9 Z Z (by kernel_rfl) Z Z (A4 Z Z) (D9 Z Z (by kernel_rfl) Z Z (A4 Z Z) (D9 Z Z (by kernel_rfl) Z Z (D3 Z) (D9 Z Z (by kernel_rfl) Z Z (A7 Z) (D9 Z Z (by kernel_rfl) Z Z (A8 Z Z Z) (D9 Z Z (by kernel_rfl) Z Z (A4 Z Z) (X3 Z Z (by kernel_rfl) Z Z (C89 (fun frc hU hk=>V3 734 (List Int) intsC [] (V0 hU Z) (V0 hU Z) (by omega) (by omega) (fun _=>by first | exact ⟨⟨rfl,rfl⟩,trivial⟩ | exact ⟨M9 _ _ _,trivial⟩) (by rw [hk];exact hfree))) Z ?_)))))));refine X3 Z Z (by kernel_rfl) Z Z (C89 (fun frc hU hk=>H37 735 (V0 hU Z) Z Z Z Z (by rw [hk];exact hfree5))) Z ?_;refine X3 Z Z (by kernel_rfl) Z Z (C25 (fun frc hU=>E61 (V0 hU Z) Z (V0 hU Z) Z (by omega) Z)) Z (D9 Z Z (by kernel_rfl) Z Z (D3 Z) (D9 Z Z (by kernel_rfl) Z Z (A7 Z) (X3 Z Z (by kernel_rfl) Z Z (D20 (fun frc hU=>B8 TySz.out (V0 hU Z) Z (V0 hU Z) Z Z Z)) Z ?_)));refine D18 (by kernel_rfl) rfl ?_ ?_
  ·refine I3 Z Z (by kernel_rfl) Z Z (A4 Z Z) (I3 Z Z (by kernel_rfl) Z Z (A4 Z Z) (I3 Z Z (by kernel_rfl) Z Z (A4 Z Z) (I3 Z Z (by kernel_rfl) Z Z (A4 Z Z) (I3 Z Z (by kernel_rfl) Z Z (A4 Z Z) (I3 Z Z (by kernel_rfl) Z Z (D3 Z) (I3 Z Z (by kernel_rfl) Z Z (D3 Z) (I3 Z Z (by kernel_rfl) Z Z (A7 Z) (I3 Z Z (by kernel_rfl) Z Z (A7 Z) (I3 Z Z (by kernel_rfl) Z Z (A8 Z Z Z) (I3 Z Z (by kernel_rfl) Z Z (A8 Z Z Z) ?_))))))))));exact C51
  refine L1 [(4,.s (.one (.ref 4 0))),(6,B7 n),(12,C0 (List Int) 1 intsC ids),(13,.s (.one (.ref 730 0))),(69,B7 ((base.length:Int)+1)),(70,B7 k)] ([(4,n9),(730,Y7 names base n),(731,.arr Int 1 Z1 (List.replicate base.length 0)),(732,.growT 114 (k+1) 1 (R4 k++[TC.mut 734])),(734,.arr (List Int) 1 intsC (List.replicate n [])),(735,.tarr 1 1 [.mut 734])]++H1 intsC (E67 n) (List.range k)) (H64 ⟨le1 rfl,le1 rfl,le1 rfl,le1 rfl,le1 rfl,le1 rfl,trivial⟩ (B24 (L:=[(4,_),(730,_),(731,_),(732,_),(734,_),(735,_)]) ⟨rfl,rfl,rfl,congrArg (fun ts=>some (Ob.growT 114 (k+1) 1 ts)) h732,rfl,rfl,trivial⟩ (by repeat (first | exact gap_fgt | refine B01 rfl ?_)))) ?_
  refine G4 (G97 (by omega) (by simp only [F9,SV.free,S1.free,TC.free,I0 (show 4≠k+1000 by omega),I0 (show 730≠k+1000 by omega)];rfl)) ?_
  skip
  refine A3 (A2 (B9 Z Z (by omega)) Z (A2 (A4 Z Z) Z (A6 ?_)))
  refine k1 ?_
  refine ⟨k+1,by omega,by omega,?_⟩
  exact H64 ⟨le1 rfl,le1 rfl,le1 rfl,le1 rfl,le1 rfl,le1 rfl,trivial⟩ (fun _ _ h=>h)
 have hkb:k=base.length+1:=by have:=A1 ht;omega
 rw [hkb]
 refine L1 [(4,.s (.one (.ref 4 0))),(6,B7 n),(12,C0 (List Int) 1 intsC ids),(13,.s (.one (.ref 730 0)))] (B04 names base (List.replicate base.length 0) (E67 n) n (base.length+1)) (H64 ⟨le1 rfl,le1 rfl,le1 rfl,le1 rfl,trivial⟩ (fun _ _ h=>h)) ?_
 refine k6 (k2 (k2 ?_))
 refine A3 (A2 (A4 Z Z) Z (A2 (A4 Z Z) Z (A6 ?_)))
 refine k1 (k3 ?_)
 obtain ⟨s,hs⟩:∃s:Nat→Loom,s=fun p=>A63 ids base.length n p:=⟨_,rfl⟩
 have hsp:∀p,p≤32→s p=P9 ids base.length n p∧(s p).1.length=base.length∧∀k,((s p).2 k).length=n:=fun p hp=>by
  obtain ⟨q1,_,q3⟩:=hsame p hp
  rw [hs]
  dsimp only
  refine ⟨q1,q3,fun k=>?_⟩
  rw [q1]
  exact ((hok p).gaps k).1
 refine C9 (X:=Nat) (fun p=>([(4,.s (.one (.ref 4 0))),(6,B7 n),(12,C0 (List Int) 1 intsC ids),(13,.s (.one (.ref 730 0))),(84,B7 n),(85,B7 p)],B04 names base (s p).1 (s p).2 n (base.length+1))) (fun p=>p≤n) (fun p=>n - p) 0 (Nat.zero_le _) (by rw [hs];exact H64 ⟨le1 rfl,le1 rfl,le1 rfl,le1 rfl,le1 rfl,le1 rfl,trivial⟩ (fun _ _ h=>h)) ?_
 intro p hp
 dsimp only at hp ⊢
 obtain ⟨p1,p2,p3⟩:=hsp p (by omega)
 refine k2 ?_
 refine A3 (A2 (D8 Z Z) Z (A6 ?_))
 refine k1 (k2 ?_)
 refine B4 rfl (fun ht=>?_) (fun ht=>?_)
 ·have hlt:p < n:=by have:=A0 ht;omega
  have hv1:ids[((p:Int)+1).toNat]?=some (ids.getD (p+1) []):=by rw [show ((p:Int)+1).toNat=p+1 by omega,I00,H97 (by omega)];rfl
  have hfB:=(hidB _ (I12 hv1)).1
  have hst:s (p+1)=x9 ids (s p) p:=by rw [hs];exact C69 ids base.length n p
  obtain ⟨file,hfile⟩:∃f,f=ids.getD (p+1) []:=⟨_,rfl⟩
  have hst2:s (p+1)=((K5 file base).foldl (N9 p) (s p).1,(K5 file base).foldl (I8 p file) (s p).2):=by rw [hst,hfile,hb0];rfl
  rw [←hfile] at hv1 hfB
  refine k5 (k1 (k2 (k3 (k2 ?_))))
  refine A3 (A2 (A4 Z Z) Z (A2 (A5 Z Z) Z (A6 ?_)))
  refine k1 (k2 ?_)
  refine A3 (A2 (A4 Z Z) Z (A2 (A4 Z Z) Z (A2 (A4 Z Z) Z (A2 (A4 Z Z) Z (A2 (B9 Z Z (by omega)) Z (A2 (B0 Z (.pure _ _ _ _) Z (by omega) hv1) Z (A2 (B2 Z Z) Z (A74 (H42 names base file (s p).1 (s p).2 n p (by omega) (by omega) p2 (by omega) hlt p3) Z Z Z ?_))))))));rintro _ _ ⟨rfl,rfl⟩;refine A2 (A5 Z Z) Z (A6 ?_)
  refine k1 (k2 ?_)
  refine A3 (A2 (A4 Z Z) Z (A2 (O3 Z Z) Z (A6 ?_)))
  refine k1 ?_
  refine B4 rfl (fun ht=>?_) (fun ht=>?_)
  ·cases ht
  refine k5 (k4 (k1 ?_))
  refine A3 (A2 (B9 Z Z (by omega)) Z (A2 (A4 Z Z) Z (A6 ?_)))
  refine k1 ?_
  refine ⟨p+1,by omega,by omega,?_⟩
  rw [hst2]
  exact H64 ⟨le1 rfl,le1 rfl,le1 rfl,le1 rfl,le1 rfl,le1 rfl,trivial⟩ (fun _ _ h=>h)
 have hpn:p=n:=by have:=A1 ht;omega
 subst hpn
 obtain ⟨ms,hms⟩:∃ms,ms=(s p).1:=⟨_,rfl⟩
 obtain ⟨g,hg⟩:∃g,g=(s p).2:=⟨_,rfl⟩
 have hpair:P9 ids base.length p p=(ms,g):=by rw [←p1,hms,hg]
 rw [←hms,←hg]
 rw [←hms] at p2
 have hgk:=fun k=>(hok p).gaps k
 rw [hpair] at hgk ⊢
 dsimp only at hgk
 refine L1 [(4,.s (.one (.ref 4 0))),(6,B7 p),(13,.s (.one (.ref 730 0)))] ([(4,n9),(730,Y7 names base p),(731,.arr Int 1 Z1 ms)]++((732,.growT 114 (base.length+1) 1 (I9 intsC (base.length+1) 0 g))::H1 intsC g (List.range (base.length+1)))) (by rw [←G03];exact H64 ⟨le1 rfl,le1 rfl,le1 rfl,trivial⟩ (fun _ _ h=>h)) ?_
 refine G4 (H83 (by omega) rfl rfl (fun r _=>?_) (fun r _=>?_)) ?_
 ·simp only [F9,SV.free,S1.free,TC.free,I0 (show 4≠r+1000 by omega),I0 (show 730≠r+1000 by omega)];rfl
 ·simp only [y5,Ob.free,List.all_cons,List.all_nil,TC.free,I0 (show 731≠r+1000 by omega),I0 (show 732≠r+1000 by omega)];rfl
 obtain ⟨gs,hgs⟩:∃gs,gs=(List.range (base.length+1)).map g:=⟨_,rfl⟩
 rw [←hgs]
 refine G4 (Sees.freeze (k:=731) Z) ?_
 refine G4 (Sees.freezeG (k:=732) Z Z) ?_
 refine L1 [(4,.s (.one (.ref 4 0))),(6,B7 p),(13,.s (.one (.ref 730 0)))] [(4,n9),(730,.box [.p (.list Str 1 J9 names),.p (.list Int 1 F5 base),.p (.list Int 1 Z1 ms),.p (.list (List (List Int)) 1 intssC gs),.p (.v (.int .i64 p)),.p (.v (.slice none 0 0))])] (H62 ⟨le1 rfl,le1 rfl,le1 rfl,trivial⟩ ⟨rfl,rfl,trivial⟩) ?_
 refine G4 (H68 733 Row 3 rowC 69 (kb:=730) (o:=5) Z Z Z) ?_
 refine L1 [(4,.s (.one (.ref 4 0))),(6,B7 p),(13,.s (.one (.ref 730 0)))] (x1 names base ms gs p []) (H62 ⟨le1 rfl,le1 rfl,le1 rfl,trivial⟩ ⟨rfl,rfl,rfl,trivial⟩) ?_
 have hnm:∀k,k < f0.length→0≤base.getD k 0∧names[(base.getD k 0).toNat]?=some (f0.getD k []):=by
  intro k hk
  have hm:f0[k]∈names:=by rw [hnames];exact C60 fs _ f0 (by rw [hfs,hf0];simp) (I07 hk)
  have e1:base.getD k 0=H7 names f0[k] 0:=by rw [hbase,I00];unfold K3;rw [I20,H97 hk];rfl
  have e2:f0.getD k []=f0[k]:=by rw [I00,H97 hk];rfl
  have e3:=B64 names f0[k] 0 (Int.le_refl _) hm
  have e4:=G02 names f0[k] 0 (Int.le_refl _) hm
  rw [e1,e2]
  rw [Int.sub_zero] at e4
  exact ⟨e3.1,e4⟩
 have hW:=fun gf=>G01 (gf:=gf) names f0 base ms g p B (by omega) hbl (by omega) (by omega) hnB hgk hnm
 rw [hbl] at hgs
 rw [←hgs] at hW
 refine k6 (k2 (k2 ?_))
 refine A3 (A2 (A4 Z Z) Z (A74 (hW _) Z Z Z ?_));rintro _ _ ⟨rfl,rfl⟩;refine A2 (A5 Z Z) Z (A6 ?_)
 refine k1 (k2 ?_)
 refine A3 (A2 (A4 Z Z) Z (A2 (O3 Z Z) Z (A6 ?_)))
 refine k1 ?_
 refine B4 rfl (fun ht=>?_) (fun ht=>?_)
 ·cases ht
 refine k5 (k1 (k2 ?_))
 refine A3 (A2 (A4 Z Z) Z (A2 (D3 Z) Z (A2 (A7 Z) Z (A2 (D2 Z Z Z) Z (F6 (B8 TySz.out Z Z Z Z Z Z) (A2 (A5 Z Z) Z (A6 ?_)))))))
 refine k1 (k10 ?_)
 exact B5 (rs:=[pTable ⟨p,U0 names f0 (ms,g) (f0.length+1)⟩,G8 0]) (c9 rfl rfl rfl rfl rfl rfl rfl) rfl
abbrev iS (i:Int):S1:=.one (.p (.v (.int .i64 i)))
set_option maxHeartbeats 1000000
end Go.Proofs.YtgejaedjnbjpoaaGreatDoor
