/- Walks of the program's functions. -/
import Derived.Test.YtbiadkkamhpdnaaGreatDoorFc
import Derived.Test.YtbiadkkamhpdnaaGreatDoorFs
import Derived.Test.YtbiadkkamhpdnaaGreatDoorFb
set_option linter.unusedSimpArgs false
namespace Go.Proofs.YtbiadkkamhpdnaaGreatDoor
open Go Go.AL
set_option maxRecDepth 100000
set_option maxHeartbeats 1000000
theorem tid_old {gf:Fr} {ob:Obs} (names:List Str) (s:Str) (hs:s∈names) (h0:C9 ob 710=some (.box [.mut 711,.buf 712 Str 1 I3 names])) (h1:C9 ob 711=some (.map Str A76 (v7 names 0))) :
  AL.Met Tryz.prog 218 [.one (.ref 710 0),.one (.p (.v (.string ⟨s.toArray⟩)))] gf ob [] (fun rs ob'=>rs=[.one (.p (.v (.int .i64 (H7 names s 0))))]∧ob'=ob):=by
 have hg:=D96 s names 0 hs
 refine AL.Met.intro Tryz.func218 (by decide) Z Z Z ?_
 refine k2 ?_
 refine A4 (A2 (A5 Z Z) Z (A6 ?_))
 refine k1 (k2 ?_)
 refine A4 (A2 (A3 Z Z) Z (A2 (D3 Z) Z (A2 (A8 Z) Z (A2 (A9 Z h0 Z) Z (A2 (A3 Z Z) Z (A2 (E54 (s) (r:=some (.v (.int .i64 (H7 names s 0)))) Z h1 Z C89 C90 (hg)) Z (A2 (A3 Z Z) Z (A2 (C6 Z Z) Z (A2 (C6 Z Z) Z (A2 (A5 Z Z) Z (A2 (A5 Z Z) Z (A6 ?_))))))))))))
 refine k1 (k2 (k2 ?_))
 refine A4 (A2 (A3 Z Z) Z (A2 (J8 Z) Z (A6 ?_)))
 refine k1 ?_
 refine B5 rfl (fun ht=>?_) (fun ht=>?_)
 ·cases ht
 refine k5 (k1 (k2 ?_))
 refine A4 (A2 (A3 Z Z) Z (A2 (A5 Z Z) Z (A6 ?_)))
 refine k1 (k10 ?_)
 exact L1 (Y7 rfl rfl) (by repeat (first | exact E4 | refine E1 rfl ?_ | refine F1 _ ?_)) (fun _ _ h=>h) ⟨rfl,rfl⟩
theorem tid_new {gf:Fr} {ob:Obs} (names:List Str) (s:Str) (hs:s∉names) (hl:names.length≤1073741823) (h0:C9 ob 710=some (.box [.mut 711,.buf 712 Str 1 I3 names])) (h1:C9 ob 711=some (.map Str A76 (v7 names 0)))
  (h2:C9 ob 712=some (.spare names.length 1 9)) :
  AL.Met Tryz.prog 218 [.one (.ref 710 0),.one (.p (.v (.string ⟨s.toArray⟩)))] gf ob [712] (fun rs ob'=>rs=[.one (.p (.v (.int .i64 names.length)))]∧ob'=(710,.box [.mut 711,.buf 712 Str 1 I3 (names++[s])])::(712,.spare (names++[s]).length 1 9)::Obs.forget 712 ((711,.map Str A76 (v7 names 0++[(s,.v (.int .i64 names.length))]))::ob)):=by
 have hg:=D26 s names 0 hs
 refine AL.Met.intro Tryz.func218 (by decide) Z Z Z ?_
 refine k2 ?_
 refine A4 (A2 (A5 Z Z) Z (A6 ?_))
 refine k1 (k2 ?_)
 refine A4 (A2 (A3 Z Z) Z (A2 (D3 Z) Z (A2 (A8 Z) Z (A2 (A9 Z h0 Z) Z (A2 (A3 Z Z) Z (A2 (E54 (s) (r:=none) Z h1 Z C89 C90 (hg)) Z (A2 (A3 Z Z) Z (A2 (C6 Z Z) Z (A2 (C6 Z Z) Z (A2 (A5 Z Z) Z (A2 (A5 Z Z) Z (A6 ?_))))))))))))
 refine k1 (k2 (k2 ?_))
 refine A4 (A2 (A3 Z Z) Z (A2 (J8 Z) Z (A6 ?_)))
 refine k1 ?_
 refine B5 rfl (fun ht=>?_) (fun ht=>?_)
 ·refine k2 ?_
  refine A4 (A2 (A3 Z Z) Z (A2 (D3 Z) Z (A2 (A8 Z) Z (A2 (A9 Z h0 Z) Z (A2 (E0 Z (.buf _ _ _ _ _)) Z (A2 (A5 Z Z) Z (A6 ?_)))))))
  refine k1 (k2 ?_)
  refine A4 (A2 (A3 Z Z) Z (A2 (D3 Z) Z (A2 (A8 Z) Z (A2 (A9 Z h0 Z) Z (A2 (A3 Z Z) Z (A2 (A3 Z Z) Z (F3 (G18 (s) Z h1 Z Z Z C89 C90 (hg)) (A6 ?_))))))))
  refine k1 ?_
  have h0':C9 ((711,Ob.map Str A76 (v7 names 0++[(s,.v (.int .i64 names.length))]))::ob) 710=some (.box [.mut 711,.buf 712 Str 1 I3 names]):=by rw [C2 (by decide)];exact h0
  have h2':C9 ((711,Ob.map Str A76 (v7 names 0++[(s,.v (.int .i64 names.length))]))::ob) 712=some (.spare names.length 1 9):=by rw [C2 (by decide)];exact h2
  have h0'':C9 ((712,Ob.spare (names++[s]).length 1 9)::Obs.forget 712 ((711,Ob.map Str A76 (v7 names 0++[(s,.v (.int .i64 names.length))]))::ob)) 710=some (.box [.mut 711,.p (.list Str 1 I3 names)]):=by
   rw [C2 (by decide),N4,h0'];rfl
  refine A4 (A2 (A3 Z Z) Z (A2 (A3 Z Z) Z (A2 (D3 Z) Z (A2 (A8 Z) Z (A2 (A9 Z h0' Z) Z (A2 (A3 Z Z) Z (A2 (D8 (c:=I3) (ys:=[s]) (E5 Z Z Z Z G8) Z Z Z) Z (D1 (J2 Z h2' Z (.pure _ _ _ _) (by (simp only [G81,G83];omega)) Z) Z (A2 (D3 Z) Z (A2 (A8 Z) Z (F3 (B9 TySz.out Z h0'' Z Z Z Z) (A6 ?_))))))))))))
  refine k1 (k2 ?_)
  refine A4 (A2 (A3 Z Z) Z (A2 (A5 Z Z) Z (A6 ?_)))
  refine k1 (k10 ?_)
  exact L1 (Y7 rfl rfl) (by repeat (first | exact E4 | refine E1 rfl ?_ | refine F1 _ ?_)) (fun _ _ h=>h) ⟨rfl,rfl⟩
 ·cases ht
theorem F20 (files:List (List Str)) (i m:Nat):(N6 files i).all (TC.free m)=true:=by
 rw [List.all_eq_true]
 intro t ht
 unfold N6 at ht
 obtain ⟨r,_,rfl⟩:=List.mem_map.1 ht
 split<;>rfl
theorem F88 {files:List (List Str)} {i:Nat} (b x:TC) (m:Nat):(((N6 files i).set i b).map (TC.forget m)).set i x=(N6 files i).set i x:=by
 have e1:(N6 files i).map (TC.forget m)=N6 files i:=by
  unfold N6
  rw [H17]
  apply List.map_congr_left
  intro r _
  simp only [Function.comp]
  split<;>rfl
 rw [List.map_set,e1,List.set_set]
theorem F21 {files:List (List Str)} {i:Nat} (b x:TC) (m m':Nat):((((N6 files i).set i b).map (TC.forget m)).map (TC.forget m')).set i x=(N6 files i).set i x:=by
 have e1:∀m,(N6 files i).map (TC.forget m)=N6 files i:=by
  intro m
  unfold N6
  rw [H17]
  apply List.map_congr_left
  intro r _
  simp only [Function.comp]
  split<;>rfl
 rw [List.map_set,e1,List.map_set,e1,List.set_set]
theorem F89 (files:List (List Str)) (hn:files.length≤1048576) (hl:files.flatten.length≤536870911):FnOk Tryz.prog 175 [pStrss files] (fun rs=>rs=[pIntss (files.map (E2 (C3 files))),A09 (C3 files)]):=by
 refine FnOk.intro Tryz.func175 (by decide) Z Z Z Z ?_
 refine k2 ?_
 refine A4 (A2 (A5 Z Z) Z (A2 (A5 Z Z) Z (A6 ?_)))
 refine k1 (k2 ?_)
 refine A4 (D1 (F79 711 Str A76 Z) Z (A2 (I6 Z) Z (D1 (Y6 710 Z Z Z) Z (A2 (A5 Z Z) Z (A6 ?_)))))
 refine k1 (k2 ?_)
 refine J3 (G53 712 Str 1 I3 9 (kb:=710) (o:=1) Z Z Z) ?_
 refine A4 (A2 (A3 Z Z) Z (A2 (E0 Z (.pure _ _ _ _)) Z (D1 (B65 20 Unit (fun _ _=>.v (.slice none 0 0)) () Z Z (by omega) (by omega) (fun _=>by first | exact ⟨⟨rfl,rfl⟩,trivial⟩ | exact ⟨U5 _ _ _,trivial⟩) (by first | rfl | (simp [H2,K8,Ob.free,SV.free,S1.free,TC.free]<;>rfl))) Z ?_)));refine A2 (A5 Z Z) Z (A6 ?_)
 refine k1 (k2 (k2 ?_))
 refine J3 (G68 20 Z) ?_
 have hz:((List.replicate ((files.length:Nat):Int).toNat ()).map fun x=>TC.p ((fun (_:Unit) (_:Nat)=>Cell.v (.slice none 0 0)) x 0))=N6 files 0:=by
  rw [H01,←F40];simp
 have hz2:(List.replicate ((files.length:Nat):Int).toNat ()).length=files.length:=by simp
 rw [hz,hz2]
 refine A4 (A2 (A3 Z Z) Z (A2 (E0 Z (.pure _ _ _ _)) Z (A2 (A3 Z Z) Z (A6 ?_))))
 refine k1 (k3 ?_)
 refine D9 (X:=Nat) (fun i=>([(4,.s (.one (.ref 710 0))),(5,.s (.one (.mut 20))),(16,C4 (List Str) 1 strsC files),(17,C1 files.length),(18,C1 i)],[(710,.box [.mut 711,.buf 712 Str 1 I3 (M2 files i 0)]),(711,.map Str A76 (v7 (M2 files i 0) 0)),(712,.spare (M2 files i 0).length 1 9),(20,.tarr files.length 1 (N6 files i))])) (fun i=>i≤files.length) (fun i=>files.length - i) 0 (Nat.zero_le _) ?_ ?_
 ·rw [show M2 files 0 0=[] from rfl]
  exact G48 ⟨le1 rfl,le1 rfl,le1 rfl,le1 rfl,le1 rfl,trivial⟩ ⟨rfl,rfl,rfl,rfl,trivial⟩
 intro i hi
 dsimp only at hi ⊢
 refine k2 ?_
 refine A4 (A2 (E9 Z Z) Z (A6 ?_))
 refine k1 (k2 ?_)
 refine B5 rfl (fun ht=>?_) (fun ht=>?_)
 ·have hlt:i < files.length:=by have:=A0 ht;omega
  obtain ⟨f,hf⟩:∃f,f=files.getD i []:=⟨_,rfl⟩
  have hv:files[i]?=some f:=by rw [hf];simp [hlt]
  have hfl:f.length≤files.flatten.length:=by
   have h1:f∈files:=G98 hv
   have:∀(fs:List (List Str)),f∈fs→f.length≤fs.flatten.length:=by
    intro fs
    induction fs with
    | nil=>intro h;simp at h
    | cons x r ih =>
     intro h
     simp only [H03,G79]
     rcases List.mem_cons.1 h with rfl | h
     ·omega
     ·have:=ih h;omega
   exact this files h1
  have hrl:(N6 files i).length=files.length:=by simp [N6]
  refine k5 (k1 (k2 (k3 (k2 ?_))))
  refine A4 (A2 (A3 Z Z) Z (A2 (B1 Z (.pure _ _ _ _) Z (by omega) hv) Z (A2 (B3 Z Z) Z (A2 (A5 Z Z) Z (A2 (A5 Z Z) Z (A6 ?_))))))
  refine k1 (k2 ?_)
  refine A4 (A2 (A3 Z Z) Z (A2 (E0 Z (.pure _ _ _ _)) Z (A2 (A3 Z Z) Z (A6 ?_))))
  refine k1 (k3 ?_)
  refine J3 (G73 713 Int 1 I8 3 (kb:=20) (o:=i) Z (G11 hlt) (by simp [H2,K8,Ob.free,SV.free,S1.free,TC.free,F20];repeat' (first | rfl | constructor))) ?_
  refine D9 (X:=Nat) (fun j=>([(4,.s (.one (.ref 710 0))),(5,.s (.one (.mut 20))),(6,C1 i),(16,C4 (List Str) 1 strsC files),(17,C1 files.length),(18,C1 i),(23,C4 Str 1 I3 f),(24,C1 f.length),(25,C1 j)],[(20,.tarr files.length 1 ((N6 files i).set i (.buf 713 Int 1 I8 (E2 (C3 files) (f.take j))))),(710,.box [.mut 711,.buf 712 Str 1 I3 (M2 files i j)]),(711,.map Str A76 (v7 (M2 files i j) 0)),(712,.spare (M2 files i j).length 1 9),(713,.spare (E2 (C3 files) (f.take j)).length 1 3)])) (fun j=>j≤f.length) (fun j=>f.length - j) 0 (Nat.zero_le _) ?_ ?_
  ·exact G48 ⟨le1 rfl,le1 rfl,le1 rfl,le1 rfl,le1 rfl,le1 rfl,le1 rfl,le1 rfl,le1 rfl,trivial⟩ ⟨rfl,rfl,rfl,rfl,rfl,trivial⟩
  intro j hj
  dsimp only at hj ⊢
  refine k2 ?_
  refine A4 (A2 (E9 Z Z) Z (A6 ?_))
  refine k1 (k2 ?_)
  refine B5 rfl (fun ht=>?_) (fun ht=>?_)
  ·have hlt2:j < f.length:=by have:=A0 ht;omega
   obtain ⟨s,hs⟩:∃s,s=f[j]:=⟨_,rfl⟩
   have hvs:f[j]?=some s:=by rw [hs];simp [hlt2]
   have hstep:=E31 files i j s (by rw [←hf];exact hvs)
   obtain ⟨names,hnm⟩:∃names,names=M2 files i j:=⟨_,rfl⟩
   have hnl:=D27 files i j
   obtain ⟨rest,hrest⟩:=C54 files i (j+1)
   obtain ⟨ids,hids⟩:∃ids,ids=E2 (C3 files) (f.take j):=⟨_,rfl⟩
   have hil:ids.length=j:=by rw [hids];simp [E2];omega
   have hnext:E2 (C3 files) (f.take (j+1))=ids++[H7 (C3 files) s 0]:=by
    rw [hids,G89 hlt2,←hs];unfold E2;rw [H02];rfl
   rw [hstep] at hrest
   rw [←hnm] at hstep hnl hrest ⊢
   rw [←hids]
   have hTi:((N6 files i).set i (.buf 713 Int 1 I8 ids))[((i:Nat):Int).toNat]?=some (.buf 713 Int 1 I8 ids):=by
    rw [H01,H11 (by rw [hrl];omega)]
   have hTi2:(((N6 files i).set i (.buf 713 Int 1 I8 ids)).map (TC.forget 712))[((i:Nat):Int).toNat]?=some (.buf 713 Int 1 I8 ids):=by
    rw [H14,hTi];rfl
   refine k5 (k1 (k2 (k3 (k2 ?_))))
   refine A4 (A2 (B1 Z (.pure _ _ _ _) Z (by omega) hvs) Z (A2 (B3 Z Z) Z (A2 (A5 Z Z) Z (A6 ?_))))
   by_cases hmem:s∈names
   ·have hns:H3 names s=names:=by unfold H3;rw [if_pos hmem]
    rw [hns] at hstep hrest
    have hpl:H7 (C3 files) s 0=H7 names s 0:=by rw [hrest];exact A97 s rest names 0 hmem
    refine I1 ?_
    refine O5 ((9,P7 s)::[(4,.s (.one (.ref 710 0))),(5,.s (.one (.mut 20))),(6,C1 i),(16,C4 (List Str) 1 strsC files),(17,C1 files.length),(18,C1 i),(23,C4 Str 1 I3 f),(24,C1 f.length),(25,C1 j)]) [(20,.tarr files.length 1 ((N6 files i).set i (.buf 713 Int 1 I8 ids))),(710,.box [.mut 711,.buf 712 Str 1 I3 names]),(711,.map Str A76 (v7 names 0)),(712,.spare names.length 1 9),(713,.spare ids.length 1 3)] (G48 ⟨le1 rfl,le1 rfl,le1 rfl,le1 rfl,le1 rfl,le1 rfl,le1 rfl,le1 rfl,le1 rfl,le1 rfl,trivial⟩ ⟨rfl,rfl,rfl,rfl,rfl,trivial⟩) ?_
    refine u6 [12,10,8] [[],[8],[10,8],[12,10,8]] [(8,([],[])),(10,([713],[34])),(12,([],[]))] [(0,[]),(1,[]),(2,[]),(3,[]),(4,[]),(5,[]),(6,[]),(7,[]),(8,[]),(9,[8]),(10,[8]),(11,[10,8]),(12,[10,8])] [(0,[8]),(0,[10,8]),(1,[8]),(1,[10,8]),(2,[8]),(3,[8]),(4,[8]),(5,[8])] (by kernel_rfl) (by kernel_rfl) (L7 Z Z (by kernel_rfl) Z Z (A3 Z Z) (L7 Z Z (by kernel_rfl) Z Z (A3 Z Z) (L7 Z Z (by kernel_rfl) Z Z (A3 Z Z) (L7 Z Z (by kernel_rfl) Z Z (A3 Z Z) (L7 Z Z (by kernel_rfl) Z Z (G9 Z Z Z (by omega) (by omega)) (L7 Z Z (by kernel_rfl) Z Z (L6 Z Z (by first | exact hTi | exact hTi2)) ?_))))));refine L7 Z Z (by kernel_rfl) Z Z (A3 Z Z) (L7 Z Z (by kernel_rfl) Z Z (A3 Z Z) (C31 Z Z (by kernel_rfl) Z Z (F59 (fun gf=>tid_old names s hmem Z Z) Z Z) Z (L7 Z Z (by kernel_rfl) Z Z (D8 (c:=I8) (ys:=[H7 names s 0]) (E5 Z Z Z Z G8) Z Z Z) (C31 Z Z (by kernel_rfl) Z Z (r_turn (fun frc hU=>J2 (E14 hU Z) Z (E14 hU Z) (.pure _ _ _ _) (by (simp only [G81,G83];omega)) Z)) Z (L7 Z Z (by kernel_rfl) Z Z (G9 Z Z Z (by omega) (by omega)) (C31 Z Z (by kernel_rfl) Z Z (r_eff (fun frc hU=>x8 TySz.out (E14 hU Z) Z (by (simp;omega)) (E14 hU Z) Z)) Z ?_))))));refine F57 (by kernel_rfl) rfl ?_ ?_
    ·refine S0 Z Z (by kernel_rfl) Z Z (A3 Z Z) (S0 Z Z (by kernel_rfl) Z Z (A3 Z Z) (S0 Z Z (by kernel_rfl) Z Z (A3 Z Z) (S0 Z Z (by kernel_rfl) Z Z (A3 Z Z) (S0 Z Z (by kernel_rfl) Z Z (A3 Z Z) (S0 Z Z (by kernel_rfl) Z Z (A3 Z Z) (S0 Z Z (by kernel_rfl) Z Z (G9 Z Z Z (by omega) (by omega)) (S0 Z Z (by kernel_rfl) Z Z (L6 Z Z (by first | exact hTi | exact hTi2)) ?_)))))));exact F58
    refine O5 [(4,.s (.one (.ref 710 0))),(5,.s (.one (.mut 20))),(6,C1 i),(16,C4 (List Str) 1 strsC files),(17,C1 files.length),(18,C1 i),(23,C4 Str 1 I3 f),(24,C1 f.length),(25,C1 j)] [(20,.tarr files.length 1 ((N6 files i).set i (.buf 713 Int 1 I8 (ids++[H7 names s 0])))),(710,.box [.mut 711,.buf 712 Str 1 I3 (names)]),(711,.map Str A76 (v7 (names) 0)),(712,.spare (names).length 1 9),(713,.spare (ids++[H7 names s 0]).length 1 3)] (by rw [H01 i,F88];exact G48 ⟨le1 rfl,le1 rfl,le1 rfl,le1 rfl,le1 rfl,le1 rfl,le1 rfl,le1 rfl,le1 rfl,trivial⟩ ⟨rfl,rfl,rfl,rfl,rfl,trivial⟩) ?_
    refine A4 (A2 (C0 Z Z (by omega)) Z (A2 (A3 Z Z) Z (A6 ?_)))
    refine k1 ?_
    exact ⟨j+1,hlt2,by omega,by rw [hstep,hnext,hpl];exact G48 ⟨le1 rfl,le1 rfl,le1 rfl,le1 rfl,le1 rfl,le1 rfl,le1 rfl,le1 rfl,le1 rfl,trivial⟩ ⟨rfl,rfl,rfl,rfl,rfl,trivial⟩⟩
   ·refine I1 ?_
    have hns:H3 names s=names++[s]:=by unfold H3;rw [if_neg hmem]
    rw [hns] at hstep hrest
    have hkv:v7 (names++[s]) 0=v7 names 0++[(s,.v (.int .i64 (names.length:Int)))]:=by rw [D95];simp only [Int.zero_add]
    have hpl:H7 (C3 files) s 0=names.length:=by
     rw [hrest,A97 s rest (names++[s]) 0 (by simp),C53 s names 0 hmem];omega
    refine O5 ((9,P7 s)::[(4,.s (.one (.ref 710 0))),(5,.s (.one (.mut 20))),(6,C1 i),(16,C4 (List Str) 1 strsC files),(17,C1 files.length),(18,C1 i),(23,C4 Str 1 I3 f),(24,C1 f.length),(25,C1 j)]) [(20,.tarr files.length 1 ((N6 files i).set i (.buf 713 Int 1 I8 (ids)))),(710,.box [.mut 711,.buf 712 Str 1 I3 (names)]),(711,.map Str A76 (v7 (names) 0)),(712,.spare (names).length 1 9),(713,.spare (ids).length 1 3)] (G48 ⟨le1 rfl,le1 rfl,le1 rfl,le1 rfl,le1 rfl,le1 rfl,le1 rfl,le1 rfl,le1 rfl,le1 rfl,trivial⟩ ⟨rfl,rfl,rfl,rfl,rfl,trivial⟩) ?_
    refine u6 [12,10,8] [[],[8],[10,8],[12,10,8]] [(8,([712],[])),(10,([713],[34])),(12,([],[]))] [(0,[]),(1,[]),(2,[]),(3,[]),(4,[]),(5,[]),(6,[]),(7,[]),(8,[]),(9,[8]),(10,[8]),(11,[10,8]),(12,[10,8])] [(0,[8]),(0,[10,8]),(1,[8]),(1,[10,8]),(2,[8]),(3,[8]),(4,[8]),(5,[8])] (by kernel_rfl) (by kernel_rfl) (L7 Z Z (by kernel_rfl) Z Z (A3 Z Z) (L7 Z Z (by kernel_rfl) Z Z (A3 Z Z) (L7 Z Z (by kernel_rfl) Z Z (A3 Z Z) (L7 Z Z (by kernel_rfl) Z Z (A3 Z Z) (L7 Z Z (by kernel_rfl) Z Z (G9 Z Z Z (by omega) (by omega)) (L7 Z Z (by kernel_rfl) Z Z (L6 Z Z (by first | exact hTi | exact hTi2)) ?_))))));refine L7 Z Z (by kernel_rfl) Z Z (A3 Z Z) (L7 Z Z (by kernel_rfl) Z Z (A3 Z Z) (C31 Z Z (by kernel_rfl) Z Z (F59 (fun gf=>tid_new names s hmem (by omega) Z Z Z) Z Z) Z (L7 Z Z (by kernel_rfl) Z Z (D8 (c:=I8) (ys:=[(names.length:Int)]) (E5 Z Z Z Z G8) Z Z Z) (C31 Z Z (by kernel_rfl) Z Z (r_turn (fun frc hU=>J2 (E14 hU Z) Z (E14 hU Z) (.pure _ _ _ _) (by (simp only [G81,G83];omega)) Z)) Z (L7 Z Z (by kernel_rfl) Z Z (G9 Z Z Z (by omega) (by omega)) (C31 Z Z (by kernel_rfl) Z Z (r_eff (fun frc hU=>x8 TySz.out (E14 hU Z) Z (by (simp;omega)) (E14 hU Z) Z)) Z ?_))))));refine F57 (by kernel_rfl) rfl ?_ ?_
    ·refine S0 Z Z (by kernel_rfl) Z Z (A3 Z Z) (S0 Z Z (by kernel_rfl) Z Z (A3 Z Z) (S0 Z Z (by kernel_rfl) Z Z (A3 Z Z) (S0 Z Z (by kernel_rfl) Z Z (A3 Z Z) (S0 Z Z (by kernel_rfl) Z Z (A3 Z Z) (S0 Z Z (by kernel_rfl) Z Z (A3 Z Z) (S0 Z Z (by kernel_rfl) Z Z (G9 Z Z Z (by omega) (by omega)) (S0 Z Z (by kernel_rfl) Z Z (L6 Z Z (by first | exact hTi | exact hTi2)) ?_)))))));exact F58
    refine O5 [(4,.s (.one (.ref 710 0))),(5,.s (.one (.mut 20))),(6,C1 i),(16,C4 (List Str) 1 strsC files),(17,C1 files.length),(18,C1 i),(23,C4 Str 1 I3 f),(24,C1 f.length),(25,C1 j)] [(20,.tarr files.length 1 ((N6 files i).set i (.buf 713 Int 1 I8 (ids++[(names.length:Int)])))),(710,.box [.mut 711,.buf 712 Str 1 I3 (names++[s])]),(711,.map Str A76 (v7 (names++[s]) 0)),(712,.spare (names++[s]).length 1 9),(713,.spare (ids++[(names.length:Int)]).length 1 3)] (by rw [H01 i,F21,hkv];exact G48 ⟨le1 rfl,le1 rfl,le1 rfl,le1 rfl,le1 rfl,le1 rfl,le1 rfl,le1 rfl,le1 rfl,trivial⟩ ⟨rfl,rfl,rfl,rfl,rfl,trivial⟩) ?_
    refine A4 (A2 (C0 Z Z (by omega)) Z (A2 (A3 Z Z) Z (A6 ?_)))
    refine k1 ?_
    exact ⟨j+1,hlt2,by omega,by rw [hstep,hnext,hpl];exact G48 ⟨le1 rfl,le1 rfl,le1 rfl,le1 rfl,le1 rfl,le1 rfl,le1 rfl,le1 rfl,le1 rfl,trivial⟩ ⟨rfl,rfl,rfl,rfl,rfl,trivial⟩⟩
  ·have hj2:j=f.length:=by have:=A1 ht;omega
   subst hj2
   rw [G95]
   refine k6 (k7 (k7 (k8 Z (k4 (k1 ?_)))))
   refine J3 (Sees.forget 713) ?_
   have hfr:((N6 files i).set i (.buf 713 Int 1 I8 (E2 (C3 files) f))).map (TC.forget 713)=N6 files (i+1):=by rw [hf];exact E32 files i 713 hlt
   have hnr:M2 files (i+1) 0=M2 files i f.length:=by rw [hf];exact E93 files i
   refine O5 [(4,.s (.one (.ref 710 0))),(5,.s (.one (.mut 20))),(16,C4 (List Str) 1 strsC files),(17,C1 files.length),(18,C1 i)] [(710,.box [.mut 711,.buf 712 Str 1 I3 (M2 files (i+1) 0)]),(711,.map Str A76 (v7 (M2 files (i+1) 0) 0)),(712,.spare (M2 files (i+1) 0).length 1 9),(20,.tarr files.length 1 (N6 files (i+1)))] (by rw [hnr,←hfr];exact G48 ⟨le1 rfl,le1 rfl,le1 rfl,le1 rfl,le1 rfl,trivial⟩ ⟨rfl,rfl,rfl,rfl,trivial⟩) ?_
   refine A4 (A2 (C0 Z Z (by omega)) Z (A2 (A3 Z Z) Z (A6 ?_)))
   refine k1 ?_
   exact ⟨i+1,hlt,by omega,G48 ⟨le1 rfl,le1 rfl,le1 rfl,le1 rfl,le1 rfl,trivial⟩ ⟨rfl,rfl,rfl,rfl,trivial⟩⟩
 ·have hi2:i=files.length:=by have:=A1 ht;omega
  rw [hi2,E94]
  refine J3 (G69 20 (c:=intsC) (files.map (E2 (C3 files))) Z (by simp) (F41 files)) ?_
  refine J3 (Sees.freeze (k:=20) Z) ?_
  refine J3 (Sees.forget 712) ?_
  refine k6 (k2 ?_)
  refine C5 (by kernel_rfl) (by kernel_rfl) (A7 (A3 Z Z) Z Z (A7 (A3 Z Z) Z Z (A7 (D3 Z) Z Z (A7 (A8 Z) Z Z (A7 (A9 Z Z Z) Z Z (A7 (A5 Z Z) Z Z (A7 (A5 Z Z) Z Z (F4 ?_))))))))
  refine k1 (k10 ?_)
  exact B6 (x7 rfl rfl rfl rfl rfl) rfl
theorem E18 (files:List (List Str)) (hn:files.length≤1048576) (hl:files.flatten.length≤536870911):FnOk Tryz.prog 108 [pStrss files] (fun rs=>rs=[pIntss (files.map (E2 (C3 files)))]):=by
 refine FnOk.intro Tryz.func108 (by decide) Z Z Z Z ?_
 refine k2 ?_
 refine A4 (A2 (A5 Z Z) Z (A6 ?_))
 refine k1 (k2 ?_)
 refine A4 (A2 (A3 Z Z) Z (C8 (F89 files hn hl) Z Z Z ?_));rintro _ rfl;refine A2 (A3 Z Z) Z (A2 (C6 Z Z) Z (A2 (C6 Z Z) Z (A2 (A5 Z Z) Z (A2 (A5 Z Z) Z (A6 ?_)))))
 refine k1 (k2 ?_)
 refine A4 (A2 (A3 Z Z) Z (A2 (A5 Z Z) Z (A6 ?_)))
 refine k1 (k10 ?_)
 exact B6 (G4 rfl rfl rfl) rfl
abbrev C56 (i:Int):Ob:=.box [.p (.v (.int .i64 i))]
theorem C37 {gf:Fr} {ob:Obs} (e i j:Int) (out:List Span) (he:e≤1048576) (hj:0≤j) (hj2:j≤536870912) (ho:(out.length:Int)≤i)
  (h5:C9 ob 5=some (.box [.buf 20 Span 2 spanC out])) (h6:C9 ob 6=some (C56 i)) (h7:C9 ob 7=some (C56 j)) (h20:C9 ob 20=some (.spare out.length 2 88)) :
  AL.Met Tryz.prog 267 [.one (.p (.v (.int .i64 e))),.one (.ref 6 0),.one (.ref 5 0),.one (.ref 7 0)] gf ob [20]
   (fun rs ob'=>rs=[]∧ob'=(5,.box [.buf 20 Span 2 spanC (out++K7 i j (e - i).toNat)])::(6,C56 (i+(e - i).toNat))::(7,C56 (j+(e - i).toNat))::(20,.spare (out++K7 i j (e - i).toNat).length 2 88)::Obs.forget 20 ob):=by
 refine AL.Met.introH Tryz.func267 (by decide) rfl rfl rfl (fun hH=>?_)
 refine k3 ?_
 refine D9 (X:=Nat) (fun t=>([(0,C1 e),(1,.s (.one (.ref 6 0))),(2,.s (.one (.ref 5 0))),(3,.s (.one (.ref 7 0)))]++Fr.forget 20 gf,(5,.box [.buf 20 Span 2 spanC (out++K7 i j t)])::(6,C56 (i+t))::(7,C56 (j+t))::(20,.spare (out++K7 i j t).length 2 88)::Obs.forget 20 ob)) (fun t=>t≤(e - i).toNat) (fun t=>(e - i).toNat - t) 0 (Nat.zero_le _) ?_ ?_
 ·rw [Y0,H05,show i+((0:Nat):Int)=i by omega,show j+((0:Nat):Int)=j by omega]
  exact G64 20 (l:=[(0,C1 e),(1,.s (.one (.ref 6 0))),(2,.s (.one (.ref 5 0))),(3,.s (.one (.ref 7 0)))]) (L:=[(5,_),(6,_),(7,_),(20,_)]) ⟨le1 rfl,le1 rfl,le1 rfl,le1 rfl,trivial⟩ hH (by repeat (first | exact E4 | refine E1 rfl ?_)) ⟨h5,h6,h7,h20,trivial⟩
 intro t ht0
 dsimp only at ht0 ⊢
 have hsl:=Q9 i j t
 refine k2 (k2 ?_)
 refine A4 (A2 (A9 Z Z Z) Z (A2 (A3 Z Z) Z (A2 (E9 Z Z) Z (A6 ?_))))
 refine k1 ?_
 refine B5 rfl (fun ht=>?_) (fun ht=>?_)
 ·have h1:=A0 ht
  refine k5 (k1 (k2 (k3 (k2 ?_))))
  refine A4 (A2 (A9 Z Z Z) Z (A2 (A9 Z Z Z) Z (A2 (A9 Z Z Z) Z (A2 (I6 Z) Z (A2 (D8 (c:=spanC) (ys:=[⟨i+t,j+t⟩]) (E5 Z Z Z Z G8) Z Z Z) Z (D1 (J2 Z Z Z (.pure _ _ _ _) (by (simp only [G79,G81,G83];omega)) Z) Z (F3 (B9 TySz.out Z Z Z Z Z Z) (A6 ?_))))))))
  refine k1 ?_
  refine A4 (A2 (A9 Z Z Z) Z (A2 (C0 Z Z (by omega)) Z (F3 (B9 TySz.out Z Z Z Z Z Z) (A6 ?_))))
  refine k4 (k1 ?_)
  refine A4 (A2 (A9 Z Z Z) Z (A2 (C0 Z Z (by omega)) Z (F3 (B9 TySz.out Z Z Z Z Z Z) (A6 ?_))))
  refine k1 ?_
  refine ⟨t+1,by omega,by omega,?_⟩
  rw [u7,←G91,show i+((t+1:Nat):Int)=i+t+1 by omega,show j+((t+1:Nat):Int)=j+t+1 by omega]
  exact G49 ⟨le1 rfl,le1 rfl,le1 rfl,le1 rfl,trivial⟩ (Q1 hH) (by repeat (first | exact E4 | refine E1 rfl ?_ | refine K2 _ ?_)) (obs_put (L:=[(5,_),(6,_),(7,_),(20,_)]) ⟨rfl,rfl,rfl,rfl,trivial⟩ (by repeat (first | exact G19 | refine G20 rfl ?_ | refine obs_fgt _ ?_)))
 ·have h1:=A1 ht
  have h2:t=(e - i).toNat:=by omega
  subst h2
  refine k6 (k7 (k7 (k8 Z ?_)))
  exact F05 (rets0 rfl) (by repeat (first | exact E4 | refine E1 rfl ?_ | refine F1 _ ?_)) (fun _ _ h=>h) ⟨rfl,rfl⟩
theorem F90 (l:List Change) (m:Int) (hl:l.length≤32768) (hm:m≤4096) (hb:∀c∈l,c.Old≤4096∧0≤c.OldLen∧c.OldLen≤4096∧0≤c.NewLen∧c.NewLen≤4096) :
  FnOk Tryz.prog 262 [pChanges l,G2 m] (fun rs=>rs=[pSpans (N1 l m)]):=by
 refine FnOk.intro Tryz.func262 (by decide) Z Z Z Z ?_
 refine k2 ?_
 refine A4 (A2 (A5 Z Z) Z (A6 ?_))
 refine k1 (k2 ?_)
 refine A4 (D1 (G5 5 Z) Z (A6 ?_))
 refine J3 (G53 20 Span 2 spanC 88 (kb:=5) (o:=0) Z Z Z) ?_
 refine k2 ?_
 refine A4 (D1 (G5 6 Z) Z (D1 (G5 7 Z) Z (F3 (B9 TySz.out Z Z Z Z Z Z) (F3 (B9 TySz.out Z Z Z Z Z Z) (A6 ?_)))))
 refine k1 (k2 ?_)
 refine A4 (A2 (B38 Z Z) Z (A2 (A5 Z Z) Z (A6 ?_)))
 refine k1 (k2 (k2 ?_))
 refine A4 (A2 (A3 Z Z) Z (A2 (E0 Z (.pure _ _ _ _)) Z (A2 (A3 Z Z) Z (A6 ?_))))
 refine k1 (k3 ?_)
 refine D9 (X:=Nat × Int × Int × List Span) (fun x=>([(1,C1 m),(5,.s (.one (.ref 5 0))),(6,.s (.one (.ref 6 0))),(7,.s (.one (.ref 7 0))),(8,.s (.one (.clo 267 [] [(6,0),(5,0),(7,0)]))),(12,C4 Change 4 changeC l),(13,C1 l.length),(14,C1 x.1)],[(5,.box [.buf 20 Span 2 spanC x.2.2.2]),(6,C56 x.2.1),(7,C56 x.2.2.1),(20,.spare x.2.2.2.length 2 88)]))
  (fun x=>x.1≤l.length∧0≤x.2.1∧(x.2.2.2.length:Int)≤x.2.1∧x.2.1≤4096+x.1*4096∧0≤x.2.2.1∧x.2.2.1≤x.1*8192∧x.2.2.2++O7 x.2.1 x.2.2.1 (l.drop x.1) m=N1 l m)
  (fun x=>l.length - x.1) (0,0,0,[]) (by simp [N1]) (G48 ⟨le1 rfl,le1 rfl,le1 rfl,le1 rfl,le1 rfl,le1 rfl,le1 rfl,le1 rfl,trivial⟩ ⟨rfl,rfl,rfl,rfl,trivial⟩) ?_
 rintro ⟨k,i,j,out⟩ ⟨hk,hi,ho,hi2,hj,hj2,hp⟩
 dsimp only at hk hi ho hi2 hj hj2 hp ⊢
 refine k2 ?_
 refine A4 (A2 (E9 Z Z) Z (A6 ?_))
 refine k1 (k2 ?_)
 refine B5 rfl (fun ht=>?_) (fun ht=>?_)
 ·have hlt:k < l.length:=by have:=A0 ht;omega
  obtain ⟨c,hcd⟩:∃c,c=l[k]:=⟨_,rfl⟩
  have hv:l[k]?=some c:=by rw [hcd];simp [hlt]
  have hc:=hb c (G98 hv)
  rw [G86 hlt,←hcd,O7] at hp
  refine k5 (k1 (k2 (k3 (k2 ?_))))
  refine A4 (A2 (B1 Z (.pure _ _ _ _) Z (by omega) hv) Z (A2 (E3 Z Z) Z (D1 (G5 10 Z) Z (F3 (B9 TySz.out Z Z Z Z Z Z) (A6 ?_)))))
  refine k1 (k2 ?_)
  refine O5 [(1,C1 m),(5,.s (.one (.ref 5 0))),(6,.s (.one (.ref 6 0))),(7,.s (.one (.ref 7 0))),(8,.s (.one (.clo 267 [] [(6,0),(5,0),(7,0)]))),(10,.s (.one (.ref 10 0))),(12,C4 Change 4 changeC l),(13,C1 l.length),(14,C1 k)] [(5,.box [.buf 20 Span 2 spanC out]),(6,C56 i),(7,C56 j),(20,.spare out.length 2 88),(10,.box [.p (.v (.int .i64 c.Old)),.p (.v (.int .i64 c.OldLen)),.p (.v (.int .i64 c.New)),.p (.v (.int .i64 c.NewLen))])] (G48 ⟨le1 rfl,le1 rfl,le1 rfl,le1 rfl,le1 rfl,le1 rfl,le1 rfl,le1 rfl,le1 rfl,trivial⟩ ⟨rfl,rfl,rfl,rfl,rfl,trivial⟩) ?_
  refine A4 (A2 (A3 Z Z) Z (A2 (A8 Z) Z (A2 (A9 Z Z Z) Z (C88 (C37 c.Old i j out (by omega) hj (by omega) ho Z Z Z Z) Z Z Z Z ?_))));rintro _ _ ⟨rfl,rfl⟩;refine A6 ?_
  refine k1 ?_
  obtain ⟨n,hn⟩:∃n,n=(c.Old - i).toNat:=⟨_,rfl⟩
  rw [←hn] at hp ⊢
  refine O5 [(1,C1 m),(5,.s (.one (.ref 5 0))),(6,.s (.one (.ref 6 0))),(7,.s (.one (.ref 7 0))),(8,.s (.one (.clo 267 [] [(6,0),(5,0),(7,0)]))),(10,.s (.one (.ref 10 0))),(12,C4 Change 4 changeC l),(13,C1 l.length),(14,C1 k)] [(5,.box [.buf 20 Span 2 spanC (out++K7 i j n)]),(6,C56 (i+n)),(7,C56 (j+n)),(20,.spare (out++K7 i j n).length 2 88),(10,.box [.p (.v (.int .i64 c.Old)),.p (.v (.int .i64 c.OldLen)),.p (.v (.int .i64 c.New)),.p (.v (.int .i64 c.NewLen))])] (G48 ⟨le1 rfl,le1 rfl,le1 rfl,le1 rfl,le1 rfl,le1 rfl,le1 rfl,le1 rfl,le1 rfl,trivial⟩ ⟨rfl,rfl,rfl,rfl,rfl,trivial⟩) ?_
  refine B73 [9,8] [[],[8],[9,8]] [(4,[8]),(5,[8]),(6,[8]),(7,[8])] (by kernel_rfl) (by kernel_rfl) (p5 Z (A9 Z Z Z) (p5 Z (A8 Z) (p5 Z (A9 Z Z Z) (p5 Z (C0 Z Z (by omega)) (p5 Z (A9 Z Z Z) (p5 Z (A8 Z) (p5 Z (A9 Z Z Z) (p5 Z (C0 Z Z (by omega)) (C61 (o7 TySz.out Z Z Z Z Z Z) (C61 (o7 TySz.out Z Z Z Z Z Z) ?_))))))))));refine a_nil rfl ?_ ?_
  ·refine O2 Z Z (A9 Z Z Z) (O2 Z Z (A8 Z) (O2 Z Z (A9 Z Z Z) (O2 Z Z (C0 Z Z (by omega)) ?_)));exact o_nil
  refine k4 (k1 ?_)
  refine A4 (A2 (C0 Z Z (by omega)) Z (A2 (A3 Z Z) Z (A6 ?_)))
  refine k1 ?_
  have hsl:=Q9 i j n
  have h3:max i c.Old=i+n:=by omega
  rw [h3] at hp
  exact ⟨(k+1,i+n+c.OldLen,j+n+c.NewLen,out++K7 i j n),⟨by dsimp only;omega,by dsimp only;omega,by dsimp only;rw [G79,hsl];omega,by dsimp only;omega,by dsimp only;omega,by dsimp only;omega,by dsimp only;rw [G91];exact hp⟩,by dsimp only;omega,G48 ⟨le1 rfl,le1 rfl,le1 rfl,le1 rfl,le1 rfl,le1 rfl,le1 rfl,le1 rfl,trivial⟩ ⟨rfl,rfl,rfl,rfl,trivial⟩⟩
 ·have hk':k=l.length:=by have:=A1 ht;omega
  rw [hk',G84 (Nat.le_refl _),O7] at hp
  refine k6 (k2 ?_)
  refine A4 (A2 (A3 Z Z) Z (A2 (A3 Z Z) Z (C88 (C37 m i j out (by omega) hj (by omega) ho Z Z Z Z) Z Z Z Z ?_)));rintro _ _ ⟨rfl,rfl⟩;refine A6 ?_
  refine k1 (k2 ?_)
  rw [hp]
  refine J3 (Sees.forget 20) ?_
  refine A4 (A2 (A9 Z Z Z) Z (A2 (A5 Z Z) Z (A6 ?_)))
  refine k1 (k10 ?_)
  exact B6 (G4 rfl rfl rfl) rfl
theorem B08 {l:List Change} {m n:Int} (hok:ScOk 0 0 l m n):∀c∈l,c.Old≤4096∧0≤c.OldLen∧c.OldLen≤4096∧0≤c.NewLen∧c.NewLen≤4096:=by
 intro c hc
 obtain ⟨k,hk,rfl⟩:=List.mem_iff_getElem.1 hc
 have:=hok.get k hk
 have e:cAt l k=l[k]:=by unfold cAt;simp [hk]
 rw [e] at this
 obtain ⟨⟨_,h1⟩,⟨h2,h3⟩,_,⟨h4,h5⟩,_⟩:=this
 exact ⟨h1,h2,h3,h4,h5⟩
theorem C38 {l:List Change} {m n:Int} (hm:m≤4096) (hok:ScOk 0 0 l m n):(N1 l m).length≤4096:=by
 have:=C17 l 0 0 m (by omega) 4096 (by omega) (fun c hc=>⟨by have:=(B08 hok c hc).1;omega,(B08 hok c hc).2.1⟩)
 unfold N1;omega
def E19 (a b:List Int) (p:Span):Prop:=0≤p.From∧0≤p.To∧∃v,a[p.From.toNat]?=some v∧b[p.To.toNat]?=some v
theorem G34 (l:List Change) (a b:List Int) (hl:l.length≤32768) (hc:P4 l a.length b.length=0) (hp:∀p∈N1 l a.length,E19 a b p) :
  FnOk Tryz.prog 237 [pChanges l,O1 a,O1 b] (fun rs=>rs=[O4 true]):=by
 obtain ⟨⟨_,ha⟩,⟨_,hb⟩,hok⟩:=A37 hc
 have hcs:=B08 hok
 have hpl:=C38 (by omega) hok
 obtain ⟨ps,hps⟩:∃ps,ps=N1 l a.length:=⟨_,rfl⟩
 rw [←hps] at hpl
 refine FnOk.intro Tryz.func237 (by decide) Z Z Z Z ?_
 refine k2 ?_
 refine A4 (A2 (A5 Z Z) Z (A6 ?_))
 refine k1 (k2 (k2 ?_))
 refine A4 (A2 (A3 Z Z) Z (A2 (A3 Z Z) Z (A2 (E0 Z (.pure _ _ _ _)) Z (A2 (A3 Z Z) Z (A2 (E0 Z (.pure _ _ _ _)) Z (C8 (D86 l a.length b.length (by omega)) Z Z Z ?_))))));rintro _ rfl;refine A2 (J0 Z Z) Z (A6 ?_)
 rw [hc]
 refine k1 ?_
 refine B5 rfl (fun ht=>?_) (fun ht=>?_)
 ·cases ht
 refine k5 (k1 (k2 (k2 ?_)))
 refine A4 (A2 (A3 Z Z) Z (A2 (A3 Z Z) Z (A2 (E0 Z (.pure _ _ _ _)) Z (C8 (F90 l a.length hl ha hcs) Z Z Z ?_))));rintro _ rfl;refine A2 (E0 Z (.pure _ _ _ _)) Z (A2 (A3 Z Z) Z (A6 ?_))
 rw [←hps] at hp ⊢
 refine k1 (k3 ?_)
 refine D9 (X:=Nat) (fun k=>([(1,C4 Int 1 I8 a),(2,C4 Int 1 I8 b),(19,C4 Span 2 spanC ps),(20,C1 ps.length),(21,C1 k)],[])) (fun k=>k≤ps.length) (fun k=>ps.length - k) 0 (Nat.zero_le _) (G48 ⟨le1 rfl,le1 rfl,le1 rfl,le1 rfl,le1 rfl,trivial⟩ trivial) ?_
 intro k hk
 dsimp only at hk ⊢
 refine k2 ?_
 refine A4 (A2 (E9 Z Z) Z (A6 ?_))
 refine k1 (k2 ?_)
 refine B5 rfl (fun ht=>?_) (fun ht=>?_)
 ·have hlt:k < ps.length:=by have:=A0 ht;omega
  obtain ⟨p,hpd⟩:∃p,p=ps[k]:=⟨_,rfl⟩
  have hv:ps[k]?=some p:=by rw [hpd];simp [hlt]
  obtain ⟨h1,h2,v,h3,h4⟩:=hp p (G98 hv)
  have h5:=(List.getElem?_eq_some_iff.1 h3).1
  have h6:=(List.getElem?_eq_some_iff.1 h4).1
  refine k5 (k1 (k2 (k3 (k2 ?_))))
  refine A4 (A2 (B1 Z (.pure _ _ _ _) Z (by omega) hv) Z (A2 (E3 Z Z) Z (D1 (G5 8 Z) Z (F3 (B9 TySz.out Z Z Z Z Z Z) (A6 ?_)))))
  refine k1 (k2 ?_)
  refine C5 (by kernel_rfl) (by kernel_rfl) (A7 (A3 Z Z) Z Z (A7 (A8 Z) Z Z (A7 (A9 Z Z Z) Z Z (A7 (B1 Z (.pure _ _ _ _) Z (by omega) h3) Z Z (A7 (B3 Z Z) Z Z (A7 (A3 Z Z) Z Z (A7 (A8 Z) Z Z (A7 (A9 Z Z Z) Z Z (A7 (B1 Z (.pure _ _ _ _) Z (by omega) h4) Z Z (A7 (B3 Z Z) Z Z (A7 (J0 Z Z) Z Z (F4 ?_))))))))))))
  refine k1 ?_
  refine B5 rfl (fun ht=>?_) (fun ht=>?_)
  ·exact absurd (A0 ht) (by simp)
  refine k5 (k4 (k1 ?_))
  refine A4 (A2 (C0 Z Z (by omega)) Z (A2 (A3 Z Z) Z (A6 ?_)))
  refine k1 ?_
  exact ⟨k+1,hlt,by omega,G48 ⟨le1 rfl,le1 rfl,le1 rfl,le1 rfl,le1 rfl,trivial⟩ trivial⟩
 ·refine k6 (k2 ?_)
  refine A4 (A2 (A5 Z Z) Z (A6 ?_))
  refine k1 (k10 ?_)
  exact B6 (G4 rfl rfl rfl) rfl
theorem F22 (l:List Change) (m n:Int) (hl:l.length≤32768) (hc:P4 l m n=0) :
  FnOk Tryz.prog 227 [pChanges l,G2 m,G2 n] (fun rs=>rs=[pSpans (N1 l m),G2 0]):=by
 obtain ⟨⟨_,hm⟩,_,hok⟩:=A37 hc
 have hcs:∀c∈l,c.Old≤536870911∧0≤c.OldLen∧c.OldLen≤1048576∧0≤c.NewLen∧c.NewLen≤1048576:=by
  intro c hc
  have:=B08 hok c hc
  omega
 refine FnOk.intro Tryz.func227 (by decide) Z Z Z Z ?_
 refine k2 ?_
 refine A4 (A2 (A5 Z Z) Z (A2 (A5 Z Z) Z (A6 ?_)))
 refine k1 (k2 (k2 ?_))
 refine A4 (A2 (A3 Z Z) Z (A2 (A3 Z Z) Z (A2 (A3 Z Z) Z (C8 (C33 l m n (by omega)) Z Z Z ?_))));rintro _ rfl;refine A2 (A5 Z Z) Z (A6 ?_)
 rw [hc]
 refine k1 (k2 ?_)
 refine A4 (A2 (A3 Z Z) Z (A2 (J0 Z Z) Z (A6 ?_)))
 refine k1 ?_
 refine B5 rfl (fun ht=>?_) (fun ht=>?_)
 ·cases ht
 refine k5 (k1 (k2 ?_))
 refine A4 (A2 (A3 Z Z) Z (A2 (A3 Z Z) Z (C8 (F14 l m (by omega) (by omega) hcs) Z Z Z ?_)));rintro _ rfl;refine A2 (A5 Z Z) Z (A2 (A5 Z Z) Z (A6 ?_))
 refine k1 (k10 ?_)
 exact B6 (x7 rfl rfl rfl rfl rfl) rfl
theorem F91 (l:List Change) (a b:List Int) (hl:l.length≤32768) (hc:P4 l a.length b.length=0) (hp:∀p∈N1 l a.length,E19 a b p) :
  FnOk Tryz.prog 182 [pChanges l,O1 a,O1 b] (fun rs=>rs=[O4 true]):=by
 obtain ⟨⟨_,ha⟩,⟨_,hb⟩,hok⟩:=A37 hc
 have hpl:=C38 (by omega) hok
 obtain ⟨ps,hps⟩:∃ps,ps=N1 l a.length:=⟨_,rfl⟩
 rw [←hps] at hpl
 refine FnOk.intro Tryz.func182 (by decide) Z Z Z Z ?_
 refine k2 ?_
 refine A4 (A2 (A5 Z Z) Z (A6 ?_))
 refine k1 (k2 ?_)
 refine A4 (A2 (A3 Z Z) Z (A2 (A3 Z Z) Z (A2 (E0 Z (.pure _ _ _ _)) Z (A2 (A3 Z Z) Z (A2 (E0 Z (.pure _ _ _ _)) Z (C8 (F22 l a.length b.length hl hc) Z Z Z ?_))))));rintro _ rfl;refine A2 (A3 Z Z) Z (A2 (C6 Z Z) Z (A2 (C6 Z Z) Z (A2 (A5 Z Z) Z (A2 (A5 Z Z) Z (A6 ?_)))))
 rw [←hps] at hp ⊢
 refine k1 (k2 (k2 ?_))
 refine A4 (A2 (A3 Z Z) Z (A2 (J0 Z Z) Z (A6 ?_)))
 refine k1 ?_
 refine B5 rfl (fun ht=>?_) (fun ht=>?_)
 ·cases ht
 refine k5 (k1 (k2 (k2 ?_)))
 refine A4 (A2 (A5 Z Z) Z (A6 ?_))
 refine k1 (k3 ?_)
 refine D9 (X:=Nat) (fun k=>([(1,C4 Int 1 I8 a),(2,C4 Int 1 I8 b),(7,C4 Span 2 spanC ps),(9,C1 k)],[])) (fun k=>k≤ps.length) (fun k=>ps.length - k) 0 (Nat.zero_le _) (G48 ⟨le1 rfl,le1 rfl,le1 rfl,le1 rfl,trivial⟩ trivial) ?_
 intro k hk
 dsimp only at hk ⊢
 refine k2 (k2 ?_)
 refine A4 (A2 (A3 Z Z) Z (A2 (A3 Z Z) Z (A2 (E0 Z (.pure _ _ _ _)) Z (A2 (E9 Z Z) Z (A6 ?_)))))
 refine k1 ?_
 refine B5 rfl (fun ht=>?_) (fun ht=>?_)
 ·have hlt:k < ps.length:=by have:=A0 ht;omega
  obtain ⟨p,hpd⟩:∃p,p=ps[k]:=⟨_,rfl⟩
  have hv:ps[k]?=some p:=by rw [hpd];simp [hlt]
  obtain ⟨h1,h2,v,h3,h4⟩:=hp p (G98 hv)
  have h5:=(List.getElem?_eq_some_iff.1 h3).1
  have h6:=(List.getElem?_eq_some_iff.1 h4).1
  refine k5 (k1 (k2 (k3 (k2 ?_))))
  refine C5 (by kernel_rfl) (by kernel_rfl) (A7 (A3 Z Z) Z Z (A7 (A3 Z Z) Z Z (A7 (A3 Z Z) Z Z (A7 (B1 Z (.pure _ _ _ _) Z (by omega) hv) Z Z (A7 (B8 Z) Z Z (A7 (B3 Z Z) Z Z (A7 (B1 Z (.pure _ _ _ _) Z (by omega) h3) Z Z (A7 (B3 Z Z) Z Z (A7 (A3 Z Z) Z Z (A7 (A3 Z Z) Z Z (A7 (A3 Z Z) Z Z (A7 (B1 Z (.pure _ _ _ _) Z (by omega) hv) Z Z (A7 (B8 Z) Z Z (A7 (B3 Z Z) Z Z (A7 (B1 Z (.pure _ _ _ _) Z (by omega) h4) Z Z (A7 (B3 Z Z) Z Z (A7 (J0 Z Z) Z Z (F4 ?_))))))))))))))))))
  refine k1 ?_
  refine B5 rfl (fun ht=>?_) (fun ht=>?_)
  ·exact absurd (A0 ht) (by simp)
  refine k5 (k4 (k1 ?_))
  refine A4 (A2 (A3 Z Z) Z (A2 (C0 Z Z (by omega)) Z (A2 (A5 Z Z) Z (A6 ?_))))
  refine k1 ?_
  exact ⟨k+1,hlt,by omega,G48 ⟨le1 rfl,le1 rfl,le1 rfl,le1 rfl,trivial⟩ trivial⟩
 ·refine k6 (k2 ?_)
  refine A4 (A2 (A5 Z Z) Z (A6 ?_))
  refine k1 (k10 ?_)
  exact B6 (G4 rfl rfl rfl) rfl
abbrev pChange (c:Change):PV:=.agg [.v (.int .i64 c.Old),.v (.int .i64 c.OldLen),.v (.int .i64 c.New),.v (.int .i64 c.NewLen)]
def A53 (c:Change) (a b:List Int):List PV:=if c.NewLen=0 then [O1 a,G2 c.Old,G2 c.OldLen,O4 true] else if c.OldLen=0 then [O1 b,G2 c.New,G2 c.NewLen,O4 true] else [.one (.v (.slice none 0 0)),G2 0,G2 0,O4 false]
theorem F92 (c:Change) (a b:List Int):FnOk Tryz.prog 228 [pChange c,O1 a,O1 b] (fun rs=>rs=A53 c a b):=by
 refine FnOk.intro Tryz.func228 (by decide) Z Z Z Z ?_
 refine k2 ?_
 refine A4 (D1 (Y6 3 Z Z Z) Z (A2 (A5 Z Z) Z (A2 (A5 Z Z) Z (A2 (A5 Z Z) Z (A2 (A5 Z Z) Z (A6 ?_))))))
 refine k1 (k2 (k3 (k2 ?_)))
 refine A4 (A2 (A8 Z) Z (A2 (A9 Z Z Z) Z (A2 (I2 Z Z) Z (A2 (A5 Z Z) Z (A6 ?_)))))
 refine k1 ?_
 refine B5 rfl (fun ht=>?_) (fun ht=>?_)
 ·have h1:=A0 ht
  refine k2 ?_
  refine C5 (by kernel_rfl) (by kernel_rfl) (A7 (A3 Z Z) Z Z (A7 (A8 Z) Z Z (A7 (A9 Z Z Z) Z Z (A7 (A8 Z) Z Z (A7 (A9 Z Z Z) Z Z (A7 (A5 Z Z) Z Z (A7 (A5 Z Z) Z Z (A7 (A5 Z Z) Z Z (A7 (A5 Z Z) Z Z (F4 ?_))))))))))
  refine k1 (k10 (k12 (k11 ?_)))
  exact B6 (ret4 rfl rfl rfl rfl rfl rfl rfl rfl rfl) (by unfold A53;rw [if_pos h1])
 ·have h1:=A1 ht
  refine k2 ?_
  refine A4 (A2 (A8 Z) Z (A2 (A9 Z Z Z) Z (A2 (I2 Z Z) Z (A2 (A5 Z Z) Z (A6 ?_)))))
  refine k1 ?_
  refine B5 rfl (fun ht=>?_) (fun ht=>?_)
  ·have h2:=A0 ht
   refine k2 ?_
   refine C5 (by kernel_rfl) (by kernel_rfl) (A7 (A3 Z Z) Z Z (A7 (A8 Z) Z Z (A7 (A9 Z Z Z) Z Z (A7 (A8 Z) Z Z (A7 (A9 Z Z Z) Z Z (A7 (A5 Z Z) Z Z (A7 (A5 Z Z) Z Z (A7 (A5 Z Z) Z Z (A7 (A5 Z Z) Z Z (F4 ?_))))))))))
   refine k1 (k10 (k12 (k11 ?_)))
   exact B6 (ret4 rfl rfl rfl rfl rfl rfl rfl rfl rfl) (by unfold A53;rw [if_neg h1,if_pos h2])
  ·have h2:=A1 ht
   refine k5 (k2 ?_)
   refine A4 (A2 (A5 Z Z) Z (A2 (A5 Z Z) Z (A2 (A5 Z Z) Z (A2 (A5 Z Z) Z (A6 ?_)))))
   refine k1 (k10 ?_)
   exact B6 (ret4 rfl rfl rfl rfl rfl rfl rfl rfl rfl) (by unfold A53;rw [if_neg h1,if_neg h2])
theorem F93 (l:List Change) (a b:List Int) (k:Nat) (hk:k < l.length) (hl:l.length≤32768) (ha:a.length≤4096) (hb:b.length≤4096) (hok:ScOk 0 0 l a.length b.length) :
  FnOk Tryz.prog 183 [pChanges l,O1 a,O1 b,G2 k] (fun rs=>rs=[O4 (N0 l a b k)]):=by
 obtain ⟨c,hc⟩:∃c,c=cAt l k:=⟨_,rfl⟩
 have hv:l[k]?=some c:=by rw [hc];exact S8 hk
 have hg:=hok.get k hk
 rw [←hc] at hg
 obtain ⟨⟨c1,_⟩,⟨c2,_⟩,⟨c3,_⟩,⟨c4,_⟩,c5,c6⟩:=hg
 have hnx:k+1 < l.length→l[k+1]?=some (cAt l (k+1))∧0≤(cAt l (k+1)).Old∧(cAt l (k+1)).Old≤4096:=fun h=>by
  have:=hok.get (k+1) h
  exact ⟨S8 h,this.1.1,this.1.2⟩
 have hnx':k+1 < l.length→l[((k:Int)+1).toNat]?=some (cAt l (k+1)):=fun h=>by
  rw [show ((k:Int)+1).toNat=k+1 by omega];exact S8 h
 have hcase:(∃(t:List Int) (f n:Int),A53 c a b=[O1 t,G2 f,G2 n,O4 true]∧N0 l a b k=decide (A74 l k t f n)∧t.length≤4096∧0≤f∧0≤n∧f+n≤t.length)∨(A53 c a b=[.one (.v (.slice none 0 0)),G2 0,G2 0,O4 false]∧N0 l a b k=false):=by
  unfold A53 N0
  rw [←hc]
  by_cases h1:c.NewLen=0
  ·rw [if_pos h1,if_pos h1];exact .inl ⟨_,_,_,rfl,rfl,ha,c1,c2,c5⟩
  ·rw [if_neg h1,if_neg h1]
   by_cases h2:c.OldLen=0
   ·rw [if_pos h2,if_pos h2];exact .inl ⟨_,_,_,rfl,rfl,hb,c3,c4,c6⟩
   ·rw [if_neg h2,if_neg h2];exact .inr ⟨rfl,rfl⟩
 have hs:=F92 c a b
 rcases hcase with ⟨t,f,n,hr,hcd,ht4,f0,n0,fn⟩ | ⟨hr,hcd⟩
 ·rw [hr] at hs
  refine FnOk.intro Tryz.func183 (by decide) Z Z Z Z ?_
  refine k2 ?_
  refine A4 (A2 (A5 Z Z) Z (A6 ?_))
  refine k1 (k2 ?_)
  refine A4 (A2 (A3 Z Z) Z (A2 (A3 Z Z) Z (A2 (B1 Z (.pure _ _ _ _) Z (by omega) hv) Z (A2 (E3 Z Z) Z (A2 (A3 Z Z) Z (A2 (A3 Z Z) Z (C8 (hs) Z Z Z ?_)))))));rintro _ rfl;refine A2 (A3 Z Z) Z (A2 (C6 Z Z) Z (A2 (C6 Z Z) Z (A2 (C6 Z Z) Z (A2 (C6 Z Z) Z (A2 (A5 Z Z) Z (A2 (A5 Z Z) Z (A2 (A5 Z Z) Z (A2 (A5 Z Z) Z (A6 ?_)))))))))
  refine O5 [(0,C4 Change 4 changeC l),(3,C1 k),(9,C4 Int 1 I8 t),(10,C1 f),(11,C1 n),(12,K1 (.bool true))] [] (G48 ⟨le1 rfl,le1 rfl,le1 rfl,le1 rfl,le1 rfl,le1 rfl,trivial⟩ trivial) ?_
  have hat:∀i:Int,0≤i→i < t.length→t[i.toNat]?=some (atI t i):=fun i h0 h1=>by
   unfold atI;rw [G85,G82 (show i.toNat < t.length by omega)];rfl
  refine k2 (k2 ?_)
  refine C5 (by kernel_rfl) (by kernel_rfl) (A7 (A3 Z Z) Z Z (A7 (J8 Z) Z Z (A7 (A3 Z Z) Z Z (B4 Z Z (fun hg=>by rw [hg];exact A3 Z Z) Z Z ?_))));refine B4 Z Z (fun hg=>by rw [hg];exact A3 Z Z) Z Z ?_;refine B4 Z Z (fun hg=>by have hq:=hg;(try simp at hq);rw [hg];exact C0 Z Z (by omega)) Z Z ?_;refine B4 Z Z (fun hg=>by rw [hg];exact A3 Z Z) Z Z ?_;refine B4 Z Z (fun hg=>by rw [hg];exact E0 Z (.pure _ _ _ _)) Z Z ?_;refine B4 Z Z (fun hg=>by rw [hg];exact x5 Z Z) Z Z ?_;refine A7 (B2 Z (fun h=>by first | rfl | (rw [h];rfl)) (fun h=>by first | rfl | (rw [h];rfl))) Z Z ?_;refine A7 (A3 Z Z) Z Z (B4 Z Z (fun hg=>by rw [hg];exact A3 Z Z) Z Z ?_);refine B4 Z Z (fun hg=>by rw [hg];exact A3 Z Z) Z Z ?_;refine B4 Z Z (fun hg=>by have hq:=hg;(try simp at hq);rw [hg];exact B1 Z (.pure _ _ _ _) Z (by omega) (hat f f0 (by omega))) Z Z ?_;refine B4 Z Z (fun hg=>by rw [hg];exact B3 Z Z) Z Z ?_;refine B4 Z Z (fun hg=>by rw [hg];exact A3 Z Z) Z Z ?_;refine B4 Z Z (fun hg=>by rw [hg];exact A3 Z Z) Z Z ?_;refine B4 Z Z (fun hg=>by rw [hg];exact A3 Z Z) Z Z ?_;refine B4 Z Z (fun hg=>by have hq:=hg;(try simp at hq);rw [hg];exact C0 Z Z (by omega)) Z Z ?_;refine B4 Z Z (fun hg=>by have hq:=hg;(try simp at hq);rw [hg];exact B1 Z (.pure _ _ _ _) Z (by omega) (hat (f+n) (by omega) hq)) Z Z ?_;refine B4 Z Z (fun hg=>by rw [hg];exact B3 Z Z) Z Z ?_;refine B4 Z Z (fun hg=>by rw [hg];exact J0 Z Z) Z Z ?_;refine A7 (B2 Z (fun h=>by first | rfl | (rw [h];rfl)) (fun h=>by first | rfl | (rw [h];rfl))) Z Z ?_;refine F4 ?_
  refine k1 ?_
  refine B5 rfl (fun ht=>?_) (fun ht=>?_)
  ·have h1:¬((f+n < t.length∧atI t f=atI t (f+n))∧(k+1=l.length∨(cAt l k).Old+(cAt l k).OldLen+1 < (cAt l (k+1)).Old)):=by
    rintro ⟨⟨q1,q2⟩,_⟩
    simp [q2] at ht
    omega
   refine k2 ?_
   refine A4 (A2 (A5 Z Z) Z (A6 ?_))
   refine k1 (k10 (k11 ?_))
   exact B6 (G4 rfl rfl rfl) (by rw [hcd];unfold A74;rw [decide_eq_false h1])
  ·have h1:f+n < t.length:=Classical.byContradiction fun q=>by simp [show (t.length:Int)≤f+n by omega] at ht
   have h2:atI t f=atI t (f+n):=Classical.byContradiction fun q=>by simp [q] at ht
   refine k5 (k1 (k2 ?_))
   refine C5 (by kernel_rfl) (by kernel_rfl) (A7 (A3 Z Z) Z Z (A7 (C0 Z Z (by omega)) Z Z (A7 (A3 Z Z) Z Z (A7 (E0 Z (.pure _ _ _ _)) Z Z (A7 (I2 Z Z) Z Z (A7 (A3 Z Z) Z Z (B4 Z Z (fun hg=>by rw [hg];exact A3 Z Z) Z Z ?_)))))));refine B4 Z Z (fun hg=>by rw [hg];exact A3 Z Z) Z Z ?_;refine B4 Z Z (fun hg=>by have hq:=hg;(try simp at hq);rw [hg];exact C0 Z Z (by omega)) Z Z ?_;refine B4 Z Z (fun hg=>by have hq:=hg;(try simp at hq);rw [hg];exact B1 Z (.pure _ _ _ _) Z (by omega) (hnx' (by omega))) Z Z ?_;refine B4 Z Z (fun hg=>by rw [hg];exact B8 Z) Z Z ?_;refine B4 Z Z (fun hg=>by rw [hg];exact B3 Z Z) Z Z ?_;refine B4 Z Z (fun hg=>by rw [hg];exact A3 Z Z) Z Z ?_;refine B4 Z Z (fun hg=>by rw [hg];exact A3 Z Z) Z Z ?_;refine B4 Z Z (fun hg=>by have hq:=hg;(try simp at hq);rw [hg];exact B1 Z (.pure _ _ _ _) Z (by omega) hv) Z Z ?_;refine B4 Z Z (fun hg=>by rw [hg];exact B8 Z) Z Z ?_;refine B4 Z Z (fun hg=>by rw [hg];exact B3 Z Z) Z Z ?_;refine B4 Z Z (fun hg=>by rw [hg];exact A3 Z Z) Z Z ?_;refine B4 Z Z (fun hg=>by rw [hg];exact A3 Z Z) Z Z ?_;refine B4 Z Z (fun hg=>by have hq:=hg;(try simp at hq);rw [hg];exact B1 Z (.pure _ _ _ _) Z (by omega) hv) Z Z ?_;refine B4 Z Z (fun hg=>by rw [hg];exact B8 Z) Z Z ?_;refine B4 Z Z (fun hg=>by rw [hg];exact B3 Z Z) Z Z ?_;refine B4 Z Z (fun hg=>by have hq:=hg;(try simp at hq);rw [hg];exact C0 Z Z (by omega)) Z Z ?_;refine B4 Z Z (fun hg=>by have hq:=hg;(try simp at hq);have hn2:=hnx (by omega);rw [hg];exact C0 Z Z (by omega)) Z Z ?_;refine B4 Z Z (fun hg=>by rw [hg];exact N7 Z Z) Z Z ?_;refine A7 (B2 Z (fun h=>by first | rfl | (rw [h];rfl)) (fun h=>by first | rfl | (rw [h];rfl))) Z Z ?_;refine A7 (A5 Z Z) Z Z (F4 ?_)
   refine k1 (k10 ?_)
   have h3:N0 l a b k=if decide ((k:Int)+1=l.length)=true then true else decide (c.Old+c.OldLen+1 < (cAt l (k+1)).Old):=by
    rw [hcd,hc]
    by_cases q:k+1=l.length
    ·have h4:A74 l k t f n:=⟨⟨h1,h2⟩,.inl q⟩
     simp [h4,show (k:Int)+1=l.length by omega]
    ·have q2:¬((k:Int)+1=l.length):=by omega
     have h4:A74 l k t f n↔(cAt l k).Old+(cAt l k).OldLen+1 < (cAt l (k+1)).Old:=⟨fun h=>h.2.resolve_left q,fun h=>⟨⟨h1,h2⟩,.inr h⟩⟩
     simp [h4,q2]
   exact B6 (G4 rfl rfl rfl) (by rw [h3])
 ·rw [hr] at hs
  refine FnOk.intro Tryz.func183 (by decide) Z Z Z Z ?_
  refine k2 ?_
  refine A4 (A2 (A5 Z Z) Z (A6 ?_))
  refine k1 (k2 ?_)
  refine A4 (A2 (A3 Z Z) Z (A2 (A3 Z Z) Z (A2 (B1 Z (.pure _ _ _ _) Z (by omega) hv) Z (A2 (E3 Z Z) Z (A2 (A3 Z Z) Z (A2 (A3 Z Z) Z (C8 (hs) Z Z Z ?_)))))));rintro _ rfl;refine A2 (A3 Z Z) Z (A2 (C6 Z Z) Z (A2 (C6 Z Z) Z (A2 (C6 Z Z) Z (A2 (C6 Z Z) Z (A2 (A5 Z Z) Z (A2 (A5 Z Z) Z (A2 (A5 Z Z) Z (A2 (A5 Z Z) Z (A6 ?_)))))))))
  refine k1 (k2 (k2 ?_))
  refine C5 (by kernel_rfl) (by kernel_rfl) (A7 (A3 Z Z) Z Z (A7 (J8 Z) Z Z (A7 (A3 Z Z) Z Z (W0 Z Z (by decide) Z Z (W0 Z Z (by decide) Z Z (W0 Z Z (by decide) Z Z (W0 Z Z (by decide) Z Z (W0 Z Z (by decide) Z Z (W0 Z Z (by decide) Z Z (A7 (B69 Z (rfl) Z) Z Z (A7 (A3 Z Z) Z Z (W0 Z Z (by decide) Z Z (W0 Z Z (by decide) Z Z (W0 Z Z (by decide) Z Z (W0 Z Z (by decide) Z Z (W0 Z Z (by decide) Z Z (W0 Z Z (by decide) Z Z (W0 Z Z (by decide) Z Z (W0 Z Z (by decide) Z Z (W0 Z Z (by decide) Z Z (W0 Z Z (by decide) Z Z (W0 Z Z (by decide) Z Z (A7 (B69 Z (rfl) Z) Z Z ?_)))))))))))))))))))))));refine F4 ?_
  refine k1 ?_
  refine B5 rfl (fun ht=>?_) (fun ht=>?_)
  ·refine k2 ?_
   refine A4 (A2 (A5 Z Z) Z (A6 ?_))
   refine k1 (k10 (k11 ?_))
   exact B6 (G4 rfl rfl rfl) (by rw [hcd])
  ·cases ht
theorem F23 (l:List Change) (k:Nat) (hk:k < l.length) (hl:l.length≤32768) (h1:-4096≤(cAt l k).Old∧(cAt l k).Old≤4096) (h2:-4096≤(cAt l k).New∧(cAt l k).New≤4096) :
  FnOk Tryz.prog 184 [pChanges l,G2 k,G2 1] (fun rs=>rs=[pChanges (M9 l k)]):=by
 obtain ⟨c,hc⟩:∃c,c=cAt l k:=⟨_,rfl⟩
 have hv:l[k]?=some c:=by rw [hc];exact S8 hk
 rw [←hc] at h1 h2
 obtain ⟨c',hc'⟩:∃c':Change,c'={ c with Old:=c.Old+1 }:=⟨_,rfl⟩
 have hv':(l.set k c')[k]?=some c':=H11 hk
 have hfin:(l.set k c').set k ({ c' with New:=c'.New+1 }:Change)=M9 l k:=by
  rw [List.set_set];unfold M9;rw [←hc,hc'];rfl
 have hl':(l.set k c').length=l.length:=by simp
 refine FnOk.intro Tryz.func184 (by decide) Z Z Z Z ?_
 refine k2 ?_
 refine A4 (A2 (A5 Z Z) Z (A6 ?_))
 refine k1 (k2 ?_)
 refine A4 (D1 (G21 5 _ changeC Z (by first | rfl | (simp [H2,K8,Ob.free,SV.free,S1.free,TC.free]<;>rfl))) Z ?_);refine A2 (A3 Z Z) Z (D1 (x9 Z Z Z (.pure _ _ _ _) (by (simp;omega)) Z) Z (A2 (A5 Z Z) Z (A6 ?_)))
 simp only [H10]
 refine k1 (k2 ?_)
 refine A4 (A2 (A3 Z Z) Z (A2 (A3 Z Z) Z (A2 (A3 Z Z) Z (A2 (A3 Z Z) Z (A2 (H4 Z Z Z (by omega) (by omega)) Z (A2 (E6 Z) Z (A2 (Y9 Z Z hv Z) Z (A2 (A3 Z Z) Z (A2 (C0 Z Z (by omega)) Z (A2 (H4 Z Z Z (by omega) (by omega)) Z (A2 (E6 Z) Z (F3 (V6 (({ c with Old:=c.Old+1 }:Change)) TySz.out Z Z hv Z Z Z Z (fun _ _ _ h=>W8 h) (by intro j h1 h2;rcases j with _ | _ | _ | _ | _ | _ | _ | j<;>first | rfl | omega)) ?_))))))))))));refine A6 ?_
 rw [H01,←hc']
 refine k1 (k2 ?_)
 refine A4 (A2 (A3 Z Z) Z (A2 (A3 Z Z) Z (A2 (A3 Z Z) Z (A2 (A3 Z Z) Z (A2 (H4 Z Z Z (by omega) (by (rw [hl'];omega))) Z ?_)))));refine A2 (E6 Z) Z (A2 (Y9 Z Z hv' Z) Z (A2 (A3 Z Z) Z (A2 (C0 Z Z (by (rw [hc'];dsimp only;omega))) Z ?_)));refine A2 (H4 Z Z Z (by omega) (by (rw [hl'];omega))) Z ?_;refine A2 (E6 Z) Z (F3 (V6 (({ c' with New:=c'.New+1 }:Change)) TySz.out Z Z hv' Z Z Z Z (fun _ _ _ h=>W8 h) (by intro j h1 h2;rcases j with _ | _ | _ | _ | _ | _ | _ | j<;>first | rfl | omega)) ?_);refine A6 ?_
 rw [H01,hfin]
 refine k1 (k2 ?_)
 refine J3 (G59 (t:=7) Z Z Z) ?_
 refine A4 (A2 (A3 Z Z) Z (A2 (A5 Z Z) Z (A6 ?_)))
 refine k1 (k10 ?_)
 exact B6 (G4 rfl rfl rfl) rfl
theorem D87 {x y:List Str} {names:List Str} {l:List Change} (h:ScFit x y l):∀p∈N1 l ((E2 names x).length:Int),E19 (E2 names x) (E2 names y) p:=by
 intro p hp
 rw [show ((E2 names x).length:Int)=x.length by simp [E2]] at hp
 obtain ⟨h1,h2,v,h3,h4⟩:=h.pairs p hp
 refine ⟨h1,h2,H7 names v 0,?_,?_⟩
 ·unfold E2;rw [H14,h3];rfl
 ·unfold E2;rw [H14,h4];rfl
theorem F24 (x y names:List Str) (l:List Change) (h:ScFit x y l) (hl:l.length≤32768) (hx:∀s∈x,s∈names) (hy:∀s∈y,s∈names) :
  FnOk Tryz.prog 121 [pChanges l,O1 (E2 names x),O1 (E2 names y)] (fun rs=>rs=[pChanges (A68 l (E2 names x) (E2 names y)),G2 0]):=by
 obtain ⟨a,ha⟩:∃a,a=E2 names x:=⟨_,rfl⟩
 obtain ⟨b,hb⟩:∃b,b=E2 names y:=⟨_,rfl⟩
 have hpp:=D87 (names:=names) h
 have ia:IdsOf x a:=by rw [ha];exact x3 hx
 have ib:IdsOf y b:=by rw [hb];exact x3 hy
 rw [←ha,←hb] at hpp ⊢
 have hla:=ia.len
 have hlb:=ib.len
 have hxl:=h.lx
 have hyl:=h.ly
 have hck:=h.check
 rw [←hla,←hlb] at hck
 refine FnOk.intro Tryz.func121 (by decide) Z Z Z Z ?_
 refine k2 ?_
 refine A4 (A2 (A5 Z Z) Z (A2 (A5 Z Z) Z (A6 ?_)))
 refine k1 (k2 (k2 ?_))
 refine A4 (A2 (A3 Z Z) Z (A2 (A3 Z Z) Z (A2 (A3 Z Z) Z (C8 (F91 l a b hl hck hpp) Z Z Z ?_))));rintro _ rfl;refine A2 (J8 Z) Z (A6 ?_)
 refine k1 ?_
 refine B5 rfl (fun ht=>?_) (fun ht=>?_)
 ·cases ht
 refine k5 (k1 (k2 (k2 ?_)))
 refine A4 (A2 (A3 Z Z) Z (A2 (E0 Z (.pure _ _ _ _)) Z (A2 (H8 Z Z (by omega)) Z (A2 (A5 Z Z) Z (A6 ?_)))))
 refine k1 (k3 ?_)
 refine D9 (X:=Nat × List Change) (fun s=>([(0,C4 Change 4 changeC s.2),(1,C4 Int 1 I8 a),(2,C4 Int 1 I8 b),(8,C1 ((s.1:Int) - 1))],[])) (fun s=>s.1≤l.length∧s.2.length=l.length∧ScFit x y s.2∧j8 a b s.1 s.2=A68 l a b) (fun s=>s.1) (l.length,l) ⟨Nat.le_refl _,rfl,h,rfl⟩ (G48 ⟨le1 rfl,le1 rfl,le1 rfl,le1 rfl,trivial⟩ trivial) ?_
 rintro ⟨n,l1⟩ ⟨hn,hl1,hf1,hs1⟩
 dsimp only at hn hl1 hf1 hs1 ⊢
 refine k2 (k2 ?_)
 refine A4 (A2 (A3 Z Z) Z (A2 (x5 Z Z) Z (A6 ?_)))
 refine k1 ?_
 refine B5 rfl (fun ht=>?_) (fun ht=>?_)
 ·have hn0:0 < n:=by have:=A0 ht;omega
  obtain ⟨k,rfl⟩:∃k,n=k+1:=⟨n - 1,by omega⟩
  rw [show ((k+1:Nat):Int) - 1=k by omega]
  refine k5 (k1 (k2 (k3 (k3 ?_))))
  refine D9 (X:=List Change) (fun l2=>([(0,C4 Change 4 changeC l2),(1,C4 Int 1 I8 a),(2,C4 Int 1 I8 b),(8,C1 k)],[])) (fun l2=>l2.length=l.length∧ScFit x y l2∧P6 a b l2 k=P6 a b l1 k) (fun l2=>A04 l2 a b k) l1 ⟨hl1,hf1,rfl⟩ (G48 ⟨le1 rfl,le1 rfl,le1 rfl,le1 rfl,trivial⟩ trivial) ?_
  rintro l2 ⟨hl2,hf2,hs2⟩
  dsimp only at hl2 hf2 hs2 ⊢
  have hok2:=hf2.ok
  rw [←hla,←hlb] at hok2
  have hk2:k < l2.length:=by omega
  refine k2 (k2 ?_)
  refine A4 (A2 (A3 Z Z) Z (A2 (A3 Z Z) Z (A2 (A3 Z Z) Z (A2 (A3 Z Z) Z (C8 (F93 l2 a b k hk2 (by omega) (by omega) (by omega) hok2) Z Z Z ?_)))));rintro _ rfl;refine A6 ?_
  refine k1 ?_
  refine B5 rfl (fun ht=>?_) (fun ht=>?_)
  ·have hg:=hok2.get k hk2
   have hst:=B29 ia ib hf2 hk2 ht
   have hm:=x2 ia ib hf2 hk2 ht
   obtain ⟨⟨g1,g2⟩,_,⟨g3,g4⟩,_⟩:=hg
   refine k5 (k1 (k3 ?_))
   refine A4 (A2 (A3 Z Z) Z (A2 (A3 Z Z) Z (C8 (F23 l2 k hk2 (by omega) ⟨by omega,g2⟩ ⟨by omega,g4⟩) Z Z Z ?_)));rintro _ rfl;refine A2 (A5 Z Z) Z (A6 ?_)
   refine k4 (k1 ?_)
   exact ⟨M9 l2 k,⟨by rw [L9];exact hl2,hf2.down ia ib hk2 ht,by rw [←hst];exact hs2⟩,hm,G48 ⟨le1 rfl,le1 rfl,le1 rfl,le1 rfl,trivial⟩ trivial⟩
  ·have hst:=B30 (a:=a) (b:=b) ht
   rw [hst] at hs2
   have hsl:j8 a b (k+1) l1=j8 a b k l2:=by rw [hs2];rfl
   rw [hsl] at hs1
   refine k6 (k7 (k7 (k8 Z (k4 (k1 ?_)))))
   refine A4 (A2 (A3 Z Z) Z (A2 (H8 Z Z (by omega)) Z (A2 (A5 Z Z) Z (A6 ?_))))
   refine k1 ?_
   exact ⟨(k,l2),⟨by dsimp only;omega,hl2,hf2,hs1⟩,by dsimp only;omega,G48 ⟨le1 rfl,le1 rfl,le1 rfl,le1 rfl,trivial⟩ trivial⟩
 ·have hn0:n=0:=by have:=A1 ht;omega
  subst hn0
  have hs1:l1=A68 l a b:=hs1
  refine k6 (k2 ?_)
  refine A4 (D1 (A43 9 (c:=changeC) (ys:=[]) G8 Z Z Z (by first | rfl | (simp [H2,K8,Ob.free,SV.free,S1.free,TC.free]<;>rfl))) Z ?_);refine A2 (A3 Z Z) Z (D1 (J2 Z Z Z (.pure _ _ _ _) (by (simp;omega)) Z) Z (A2 (A5 Z Z) Z (A2 (A5 Z Z) Z (A6 ?_))))
  simp only [H10]
  refine k1 (k10 ?_)
  exact B6 (x7 rfl rfl rfl rfl rfl) (by rw [hs1])
set_option maxHeartbeats 1000000
theorem F25 (on nn a b:Str) (ctx:Int) (d:Bool) (ha:Few a) (hb:Few b) :
  FnOk Tryz.prog 63 [K6 on,K6 nn,K6 a,K6 b,G2 ctx,O4 d] (fun rs=>rs=[pPatch (R6 on nn a b ctx d).1,G2 (R6 on nn a b ctx d).2]):=by
 obtain ⟨x,hx⟩:∃x,x=B7 a:=⟨_,rfl⟩
 obtain ⟨y,hy⟩:∃y,y=B7 b:=⟨_,rfl⟩
 obtain ⟨f1,f2⟩:=P5 a
 obtain ⟨f3,f4⟩:=P5 b
 rw [←hx] at f1 f2
 rw [←hy] at f3 f4
 have hsa:=A18 ha
 have hsb:=A18 hb
 have ha0:=ha
 have hb0:=hb
 obtain ⟨ha,ha2⟩:=ha
 obtain ⟨hb,hb2⟩:=hb
 rw [←hx] at hsa ha2
 rw [←hy] at hsb hb2
 have hxm:∀s∈x,s∈C3 [x,y]:=fun s hs=>Q5 _ _ x (by simp) hs
 have hym:∀s∈y,s∈C3 [x,y]:=fun s hs=>Q5 _ _ y (by simp) hs
 have i1:(E2 (C3 [x,y]) x).length=x.length:=by simp [E2]
 have i2:(E2 (C3 [x,y]) y).length=y.length:=by simp [E2]
 have hs0:=A03 x y (by omega) (by omega)
 have hs0l:=v6 x y
 have hdf:=(s5 x y d (by omega) (by omega)).1
 have hdl:=A98 x y d (by omega) (by omega)
 obtain ⟨l,hl⟩:∃l,l=l4 x y d:=⟨_,rfl⟩
 rw [←hl] at hdf hdl
 have hmk:R6 on nn a b ctx d=if G7 on=false∨G7 nn=false then (X4,120) else if ctx < 0∨1048576 < ctx then (X4,3) else (⟨on,nn,F9 l x y ctx⟩,0):=by rw [hl,hx,hy];rfl
 have hxl:x.length≤4096:=by omega
 have hyl:y.length≤4096:=by omega
 refine FnOk.intro Tryz.func63 (by decide) Z Z Z Z ?_
 refine k2 ?_
 refine A4 (D1 (G5 12 Z) Z (A2 (A5 Z Z) Z (A6 ?_)))
 refine k1 (k2 (k2 ?_))
 refine A4 (A2 (A3 Z Z) Z (C8 (A35 on) Z Z Z ?_));rintro _ rfl;refine A2 (J8 Z) Z (A2 (A3 Z Z) Z (B0 Z Z Z Z (fun hg=>by rw [hg];exact A3 Z Z) ?_));refine B0 Z Z Z Z (fun hg=>by have hq:=hg;(try simp at hq);rw [hg];exact F5 (A35 nn) Z Z) ?_;refine B0 Z Z Z Z (fun hg=>by rw [hg];exact J8 Z) ?_;refine A2 (B2 Z (fun h=>by first | rfl | (rw [h];rfl)) (fun h=>by first | rfl | (rw [h];rfl))) Z ?_;refine A6 ?_
 refine k1 ?_
 refine B5 rfl (fun ht=>?_) (fun ht=>?_)
 ·simp only [B17,or_pick] at ht
  have h:=A0 ht
  refine k2 ?_
  refine A4 (A2 (I6 Z) Z (F3 (B9 TySz.out Z Z Z Z Z Z) (A2 (A5 Z Z) Z (A6 ?_))))
  refine k1 ?_
  refine J3 (G58 PatchHunk 3 phunkC 12 2 Z Z) ?_
  refine k10 (k11 ?_)
  exact B6 (rs:=[pPatch X4,G2 120]) (D63 rfl rfl rfl rfl rfl rfl rfl) (by rw [hmk,if_pos h])
 simp only [B17,or_pick] at ht
 have h:=A1 ht
 rw [if_neg h] at hmk
 have hn1:G7 on=true:=by cases q:G7 on<;>simp [q] at h ⊢
 have hn2:G7 nn=true:=by cases q:G7 nn<;>simp [q] at h ⊢
 refine k5 (k1 (k2 ?_))
 refine A4 (A2 (A3 Z Z) Z (C8 (B05 a (by omega)) Z Z Z ?_));rintro _ rfl;refine A2 (A3 Z Z) Z (A2 (C6 Z Z) Z (A2 (C6 Z Z) Z (A2 (A5 Z Z) Z (A2 (A5 Z Z) Z (A6 ?_)))))
 rw [hsa]
 refine k1 (k2 (k2 ?_))
 refine A4 (A2 (A3 Z Z) Z (A2 (J0 Z Z) Z (A6 ?_)))
 refine k1 ?_
 refine B5 rfl (fun ht=>?_) (fun ht=>?_)
 ·cases ht
 refine k5 (k1 (k2 ?_))
 refine A4 (A2 (A3 Z Z) Z (C8 (B05 b (by omega)) Z Z Z ?_));rintro _ rfl;refine A2 (A3 Z Z) Z (A2 (C6 Z Z) Z (A2 (C6 Z Z) Z (A2 (A5 Z Z) Z (A2 (A5 Z Z) Z (A6 ?_)))))
 rw [hsb]
 refine k1 (k2 (k2 ?_))
 refine A4 (A2 (A3 Z Z) Z (A2 (J0 Z Z) Z (A6 ?_)))
 refine k1 ?_
 refine B5 rfl (fun ht=>?_) (fun ht=>?_)
 ·cases ht
 refine k5 (k1 (k2 ?_))
 refine A4 (A2 (A3 Z Z) Z (A2 (A3 Z Z) Z (C8 (D02 x y hxl hyl) Z Z Z ?_)));rintro _ rfl;refine A2 (A5 Z Z) Z (A6 ?_)
 rw [show y9 (E2 (C3 [x,y]) x) (E2 (C3 [x,y]) y)=F0 x y from rfl]
 refine I1 ?_
 refine O5 [(0,P7 on),(1,P7 nn),(4,C1 ctx),(5,K1 (.bool d)),(12,.s (.one (.ref 12 0))),(14,C4 Str 1 I3 x),(16,C4 Str 1 I3 y),(17,C4 Change 4 changeC (F0 x y))] [(12,.box [.p (.v (.string ⟨#[]⟩)),.p (.v (.string ⟨#[]⟩)),.p (.v (.slice none 0 0))])] (G48 ⟨le1 rfl,le1 rfl,le1 rfl,le1 rfl,le1 rfl,le1 rfl,le1 rfl,le1 rfl,trivial⟩ ⟨rfl,trivial⟩) ?_
 refine j1 [(0,P7 on),(1,P7 nn),(4,C1 ctx),(12,.s (.one (.ref 12 0))),(14,C4 Str 1 I3 x),(16,C4 Str 1 I3 y),(17,C4 Change 4 changeC l)] [(12,.box [.p (.v (.string ⟨#[]⟩)),.p (.v (.string ⟨#[]⟩)),.p (.v (.slice none 0 0))])] ?_ ?_
 ·refine k2 ?_
  refine A4 (A2 (A3 Z Z) Z (A6 ?_))
  refine k1 ?_
  refine B5 rfl (fun ht=>?_) (fun ht=>?_)
  ·have hd:d=true:=ht
   have hl2:l=A68 (F0 x y) (E2 (C3 [x,y]) x) (E2 (C3 [x,y]) y):=by rw [hl,hd];rfl
   refine k2 ?_
   refine A4 (A2 (A3 Z Z) Z (A2 (A3 Z Z) Z (A2 (D8 (c:=strsC) (ys:=[x,y]) (E5 Z Z Z Z (E5 Z Z Z Z G8)) Z Z Z) Z (C8 (ids_ok [x,y] (by simp;omega) (by simp)) Z Z Z ?_))));rintro _ rfl;refine A2 (A5 Z Z) Z (A6 ?_)
   refine k1 ?_
   refine C5 (by kernel_rfl) (by kernel_rfl) (A7 (A3 Z Z) Z Z (A7 (A3 Z Z) Z Z (A7 (B1 Z (.pure _ _ _ _) Z (by omega) (show ([x,y].map (E2 (C3 [x,y])))[(0:Int).toNat]?=some (E2 (C3 [x,y]) x) from Z)) Z Z (A7 (B3 Z Z) Z Z (A7 (A3 Z Z) Z Z (A7 (B1 Z (.pure _ _ _ _) Z (by omega) (show ([x,y].map (E2 (C3 [x,y])))[(1:Int).toNat]?=some (E2 (C3 [x,y]) y) from Z)) Z Z (A7 (B3 Z Z) Z Z (A7 (F5 (F24 x y (C3 [x,y]) (F0 x y) hs0 (by omega) hxm hym) Z Z) Z Z (A7 (A3 Z Z) Z Z (A7 (C6 Z Z) Z Z (A7 (C6 Z Z) Z Z (A7 (A5 Z Z) Z Z (F4 ?_)))))))))))))
   rw [←hl2]
   refine k1 ?_
   exact G48 ⟨le1 rfl,le1 rfl,le1 rfl,le1 rfl,le1 rfl,le1 rfl,le1 rfl,trivial⟩ ⟨rfl,trivial⟩
  ·have hd:d=false:=ht
   have hl2:l=F0 x y:=by rw [hl,hd];rfl
   rw [←hl2]
   refine k5 (k1 ?_)
   exact G48 ⟨le1 rfl,le1 rfl,le1 rfl,le1 rfl,le1 rfl,le1 rfl,le1 rfl,trivial⟩ ⟨rfl,trivial⟩
 refine k2 ?_
 refine A4 (A2 (A3 Z Z) Z (A2 (A3 Z Z) Z (A2 (E0 Z (.pure _ _ _ _)) Z (A2 (A3 Z Z) Z (A2 (E0 Z (.pure _ _ _ _)) Z (A2 (A3 Z Z) Z (C8 (D01 l x.length y.length ctx (by omega)) Z Z Z ?_)))))));rintro _ rfl;refine A2 (A3 Z Z) Z (A2 (C6 Z Z) Z (A2 (C6 Z Z) Z (A2 (A5 Z Z) Z (A2 (A5 Z Z) Z (A6 ?_)))))
 refine k1 (k2 (k2 ?_))
 by_cases hcx:ctx < 0∨1048576 < ctx
 ·rw [D97 hcx]
  refine A4 (A2 (A3 Z Z) Z (A2 (J0 Z Z) Z (A6 ?_)))
  refine k1 ?_
  refine B5 rfl (fun ht=>?_) (fun ht=>?_)
  ·refine k2 ?_
   refine A4 (A2 (I6 Z) Z (A2 (A3 Z Z) Z (F3 (B9 TySz.out Z Z Z Z Z Z) (A2 (A5 Z Z) Z (A6 ?_)))))
   refine k1 ?_
   refine J3 (G58 PatchHunk 3 phunkC 12 2 Z Z) ?_
   refine k10 (k11 ?_)
   exact B6 (rs:=[pPatch X4,G2 3]) (D63 rfl rfl rfl rfl rfl rfl rfl) (by rw [hmk,if_pos hcx])
  ·cases ht
 rw [C23 hdf hcx]
 rw [if_neg hcx] at hmk
 have hmd:=B52 on nn a b l ctx hn1 hn2 hcx ha0 hb0 (by rw [←hx,←hy];exact hdf)
 have hsc:=hdf.ok
 have hgo:=A58 hdf.ok (by omega) (ctx:=ctx) l.length (Nat.le_refl _)
 have hgl:=(U3 l x.length ctx l.length).1
 have hho:F9 l x y ctx=(F2 l x.length ctx l.length).map (F6 l x y):=rfl
 obtain ⟨g,hg⟩:∃g,g=F2 l x.length ctx l.length:=⟨_,rfl⟩
 have hscl:=hdl
 rw [←hg] at hgo hgl hho ⊢
 refine A4 (A2 (A3 Z Z) Z (A2 (J0 Z Z) Z (A6 ?_)))
 refine k1 ?_
 refine B5 rfl (fun ht=>?_) (fun ht=>?_)
 ·cases ht
 refine O5 [(0,P7 on),(1,P7 nn),(12,.s (.one (.ref 12 0))),(14,C4 Str 1 I3 x),(16,C4 Str 1 I3 y),(17,C4 Change 4 changeC l),(19,C4 Hunk 6 hunkC g)] [(12,.box [.p (.v (.string ⟨#[]⟩)),.p (.v (.string ⟨#[]⟩)),.p (.v (.slice none 0 0))])] (G48 ⟨le1 rfl,le1 rfl,le1 rfl,le1 rfl,le1 rfl,le1 rfl,le1 rfl,trivial⟩ ⟨rfl,trivial⟩) ?_
 refine k5 (k1 (k2 ?_))
 refine A4 (A2 (A3 Z Z) Z (A2 (A3 Z Z) Z (A2 (I6 Z) Z (D1 (G5 20 Z) Z (F3 (B9 TySz.out Z Z Z Z Z Z) (A6 ?_))))))
 refine k1 (k2 (k2 ?_))
 refine J3 (G53 702 PatchHunk 3 phunkC 29 (kb:=20) (o:=2) Z Z Z) ?_
 skip
 refine A4 (A2 (A5 Z Z) Z (A6 ?_))
 refine k1 (k3 ?_)
 refine D9 (X:=Nat) (fun k=>([(12,.s (.one (.ref 12 0))),(14,C4 Str 1 I3 x),(16,C4 Str 1 I3 y),(17,C4 Change 4 changeC l),(19,C4 Hunk 6 hunkC g),(20,.s (.one (.ref 20 0))),(21,C1 k)],[(12,.box [.p (.v (.string ⟨#[]⟩)),.p (.v (.string ⟨#[]⟩)),.p (.v (.slice none 0 0))]),(20,.box [.p (.v (.string ⟨on.toArray⟩)),.p (.v (.string ⟨nn.toArray⟩)),.buf 702 PatchHunk 3 phunkC ((g.take k).map (F6 l x y))]),(702,.spare (((g.take k).map (F6 l x y))).length 3 29)])) (fun k=>k≤g.length) (fun k=>g.length - k) 0 (Nat.zero_le _) (G48 ⟨le1 rfl,le1 rfl,le1 rfl,le1 rfl,le1 rfl,le1 rfl,le1 rfl,trivial⟩ ⟨rfl,rfl,rfl,trivial⟩) ?_
 intro k hk
 dsimp only at hk ⊢
 refine k2 (k2 ?_)
 refine A4 (A2 (A3 Z Z) Z (A2 (A3 Z Z) Z (A2 (E0 Z (.pure _ _ _ _)) Z (A2 (E9 Z Z) Z (A6 ?_)))))
 refine k1 ?_
 refine B5 rfl (fun ht=>?_) (fun ht=>?_)
 ·have hlt:k < g.length:=by have:=A0 ht;omega
  have hv:g[k]?=some g[k]:=by simp [hlt]
  have hq:=hgo _ (G97 hlt)
  have htk:(g.take (k+1)).map (F6 l x y)=(g.take k).map (F6 l x y)++[F6 l x y g[k]]:=by rw [G89 hlt,H02];rfl
  obtain ⟨q,hqe⟩:∃q,q=g[k]:=⟨_,rfl⟩
  rw [←hqe] at hv hq htk
  obtain ⟨hs,hhs⟩:∃hs,hs=(g.take k).map (F6 l x y):=⟨_,rfl⟩
  have hhl:hs.length=k:=by rw [hhs,H20,G90];omega
  rw [←hhs] at htk ⊢
  obtain ⟨a,b,q1,q2,q3,q4,q5,q6,q7,q8,q9,q10⟩:=hq
  have hgb:=hsc.get b q4
  refine k5 (k1 (k2 (k3 (k2 ?_))))
  refine A84 13 22 (by kernel_rfl) (by kernel_rfl) Z Z Z (U1 (A3 Z Z) Z (A3 Z Z) (U1 (A3 Z Z) Z (A3 Z Z) (U1 (B1 Z (.pure _ _ _ _) Z (by omega) hv) Z (B1 Z (.pure _ _ _ _) Z (by omega) hv) (U1 (B8 Z) Z (B8 Z) (U1 (B8 Z) Z (B8 Z) (U1 (B3 Z Z) Z (B3 Z Z) (U1 (A3 Z Z) Z (A3 Z Z) (U1 (A3 Z Z) Z (A3 Z Z) (U1 (B1 Z (.pure _ _ _ _) Z (by omega) hv) Z (B1 Z (.pure _ _ _ _) Z (by omega) hv) (U1 (B8 Z) Z (B8 Z) (U1 (B8 Z) Z (B8 Z) (U1 (B3 Z Z) Z (B3 Z Z) (U1 (I6 Z) Z (I6 Z) (b_nil Z (Y5 (B9 TySz.out Z Z Z Z Z Z) Z (F4 ?_))))))))))))))))
  refine k1 (k2 ?_)
  refine J3 (G53 701 PatchLine 2 plineC 36 (kb:=22) (o:=2) Z Z Z) ?_
  refine A4 (A2 (A8 Z) Z (A2 (A9 Z Z Z) Z (A2 (A5 Z Z) Z (A6 ?_))))
  refine k1 (k2 (k2 ?_))
  refine A4 (A2 (A3 Z Z) Z (A2 (A3 Z Z) Z (A2 (B1 Z (.pure _ _ _ _) Z (by omega) hv) Z (A2 (B8 Z) Z (A2 (B3 Z Z) Z (A2 (A5 Z Z) Z (A6 ?_)))))))
  refine k1 (k3 ?_)
  refine D9 (X:=Nat) (fun t=>([(12,.s (.one (.ref 12 0))),(14,C4 Str 1 I3 x),(16,C4 Str 1 I3 y),(17,C4 Change 4 changeC l),(19,C4 Hunk 6 hunkC g),(20,.s (.one (.ref 20 0))),(21,C1 k),(22,.s (.one (.ref 22 0))),(23,C1 (O3 l q.Old.From a t)),(24,C1 ((a+t:Nat):Int))],[(12,.box [.p (.v (.string ⟨#[]⟩)),.p (.v (.string ⟨#[]⟩)),.p (.v (.slice none 0 0))]),(20,.box [.p (.v (.string ⟨on.toArray⟩)),.p (.v (.string ⟨nn.toArray⟩)),.buf 702 PatchHunk 3 phunkC hs]),(702,.spare (hs).length 3 29),(22,.box [.p (.v (.int .i64 q.Old.From)),.p (.v (.int .i64 q.New.From)),.buf 701 PatchLine 2 plineC (L8 l x y q.Old.From a t)]),(701,.spare (L8 l x y q.Old.From a t).length 2 36)])) (fun t=>a+t≤b+1) (fun t=>b+1 - (a+t)) 0 (by omega) ?_ ?_
  ·have e1:O3 l q.Old.From a 0=q.Old.From:=if_pos rfl
   rw [e1,show ((a+0:Nat):Int)=q.First by rw [q1];simp]
   exact G48 ⟨le1 rfl,le1 rfl,le1 rfl,le1 rfl,le1 rfl,le1 rfl,le1 rfl,le1 rfl,le1 rfl,le1 rfl,trivial⟩ ⟨rfl,rfl,rfl,rfl,rfl,trivial⟩
  intro t hat
  dsimp only at hat ⊢
  have hml:=B50 l x y q.Old.From a t
  have hml2:(L8 l x y q.Old.From a t).length≤4097*12288:=Nat.le_trans hml (Nat.mul_le_mul (by omega) (by omega))
  refine k2 (k2 ?_)
  refine A4 (A2 (A3 Z Z) Z (A2 (A3 Z Z) Z (A2 (A3 Z Z) Z (A2 (B1 Z (.pure _ _ _ _) Z (by omega) hv) Z (A2 (B8 Z) Z (A2 (B3 Z Z) Z (A2 (E9 Z Z) Z (A6 ?_))))))))
  refine k1 ?_
  refine B5 rfl (fun ht=>?_) (fun ht=>?_)
  ·have hlt2:a+t≤b:=by have:((a+t:Nat):Int) < q.Last:=A0 ht;omega
   obtain ⟨c,hc⟩:∃c,c=cAt l (a+t):=⟨_,rfl⟩
   have hcv:l[((a+t:Nat):Int).toNat]?=some c:=by rw [hc];exact S8 (by omega)
   have hgc:=hsc.get (a+t) (by omega)
   rw [←hc] at hgc
   obtain ⟨⟨g1,g2⟩,⟨g3,g4⟩,⟨g5,g6⟩,⟨g7,g8⟩,g9,g10⟩:=hgc
   obtain ⟨i0,hi0⟩:∃i0,i0=O3 l q.Old.From a t:=⟨_,rfl⟩
   have hpos:0≤i0∧i0≤c.Old:=by
    rw [hi0,hc];unfold O3 Q6
    split
    ·rename_i h0;subst h0;exact ⟨q5,q6⟩
    ·have h4:=hsc.next (a+t - 1) (by omega)
     have h5:=hsc.get (a+t - 1) (by omega)
     rw [show a+t - 1+1=a+t by omega] at h4
     unfold F7 at h5;omega
   obtain ⟨ls,hls⟩:∃ls,ls=L8 l x y q.Old.From a t:=⟨_,rfl⟩
   obtain ⟨p1,hp1⟩:∃p1,p1=J6 32 (sub x i0 c.Old):=⟨_,rfl⟩
   obtain ⟨p2,hp2⟩:∃p2,p2=J6 45 (sub x c.Old (Q6 c)):=⟨_,rfl⟩
   obtain ⟨p3,hp3⟩:∃p3,p3=J6 43 (sub y c.New (c.New+c.NewLen)):=⟨_,rfl⟩
   have hsucc:L8 l x y q.Old.From a (t+1)=ls++p1++p2++p3:=by rw [hls,hp1,hp2,hp3,hi0,hc];rfl
   have hps:O3 l q.Old.From a (t+1)=Q6 c:=by rw [A60,hc]
   have l1:=V0 x i0 c.Old
   have l2:=V0 x c.Old (Q6 c)
   have l3:=V0 y c.New (c.New+c.NewLen)
   have m1:p1.length=(sub x i0 c.Old).length:=by rw [hp1,V8]
   have m2:p2.length=(sub x c.Old (Q6 c)).length:=by rw [hp2,V8]
   have hend:Q6 c=c.Old+c.OldLen:=rfl
   rw [←hls] at hml2 ⊢
   rw [←hi0]
   refine k5 (k1 (k2 (k3 (k2 ?_))))
   refine J9 10 (by kernel_rfl) (by kernel_rfl) Z (A7 (A8 Z) Z Z (A7 (A9 Z Z Z) Z Z (A7 (A3 Z Z) Z Z (A7 (A3 Z Z) Z Z (A7 (A3 Z Z) Z Z (A7 (A3 Z Z) Z Z (A7 (B1 Z (.pure _ _ _ _) Z (by omega) hcv) Z Z (A7 (B8 Z) Z Z (A7 (B3 Z Z) Z Z (A7 (N9 Z (.pure _ _ _ _) Z Z (by omega) (by omega) (by omega)) Z Z (F4 (T8 (B78 ls 32 (sub x i0 c.Old) Z (by omega)) Z Z Z ?_))))))))))));rintro _ _ ⟨rfl,rfl⟩;refine ⟨_,rfl,?_⟩;refine A7 (A8 Z) Z Z (Y5 (B9 TySz.out Z Z Z Z Z Z) Z (F4 ?_))
   rw [←hp1]
   refine k1 (k2 ?_)
   refine C5 (by kernel_rfl) (by kernel_rfl) (A7 (A3 Z Z) Z Z (A7 (A3 Z Z) Z Z (A7 (B1 Z (.pure _ _ _ _) Z (by omega) hcv) Z Z (A7 (B8 Z) Z Z (A7 (B3 Z Z) Z Z (A7 (A3 Z Z) Z Z (A7 (A3 Z Z) Z Z (A7 (B1 Z (.pure _ _ _ _) Z (by omega) hcv) Z Z (A7 (B8 Z) Z Z (A7 (B3 Z Z) Z Z (A7 (C0 Z Z (by omega)) Z Z (A7 (A5 Z Z) Z Z (F4 ?_)))))))))))))
   rw [show c.Old+c.OldLen=Q6 c from rfl]
   refine k1 (k2 ?_)
   refine J9 10 (by kernel_rfl) (by kernel_rfl) Z (A7 (A8 Z) Z Z (A7 (A9 Z Z Z) Z Z (A7 (A3 Z Z) Z Z (A7 (A3 Z Z) Z Z (A7 (A3 Z Z) Z Z (A7 (B1 Z (.pure _ _ _ _) Z (by omega) hcv) Z Z (A7 (B8 Z) Z Z (A7 (B3 Z Z) Z Z (A7 (A3 Z Z) Z Z (A7 (N9 Z (.pure _ _ _ _) Z Z (by omega) (by omega) (by omega)) Z Z (F4 (T8 (B78 (ls++p1) 45 (sub x c.Old (Q6 c)) Z (by simp only [G79];omega)) Z Z Z ?_))))))))))));rintro _ _ ⟨rfl,rfl⟩;refine ⟨_,rfl,?_⟩;refine A7 (A8 Z) Z Z (Y5 (B9 TySz.out Z Z Z Z Z Z) Z (F4 ?_))
   rw [←hp2]
   refine k1 ?_
   refine J9 20 (by kernel_rfl) (by kernel_rfl) Z (A7 (A8 Z) Z Z (A7 (A9 Z Z Z) Z Z (A7 (A3 Z Z) Z Z (A7 (A3 Z Z) Z Z (A7 (A3 Z Z) Z Z (A7 (B1 Z (.pure _ _ _ _) Z (by omega) hcv) Z Z (A7 (B8 Z) Z Z (A7 (B3 Z Z) Z Z (A7 (A3 Z Z) Z Z (A7 (A3 Z Z) Z Z (A7 (B1 Z (.pure _ _ _ _) Z (by omega) hcv) Z Z (A7 (B8 Z) Z Z (A7 (B3 Z Z) Z Z (A7 (A3 Z Z) Z Z (A7 (A3 Z Z) Z Z (A7 (B1 Z (.pure _ _ _ _) Z (by omega) hcv) Z Z (A7 (B8 Z) Z Z (A7 (B3 Z Z) Z Z (A7 (C0 Z Z (by omega)) Z Z (A7 (N9 Z (.pure _ _ _ _) Z Z (by omega) (by omega) (by omega)) Z Z (F4 (T8 (B78 (ls++p1++p2) 43 (sub y c.New (c.New+c.NewLen)) Z (by simp only [G79];omega)) Z Z Z ?_))))))))))))))))))))));rintro _ _ ⟨rfl,rfl⟩;refine ⟨_,rfl,?_⟩;refine A7 (A8 Z) Z Z (Y5 (B9 TySz.out Z Z Z Z Z Z) Z (F4 ?_))
   rw [←hp3]
   refine k4 (k1 ?_)
   refine A4 (A2 (A3 Z Z) Z (A2 (C0 Z Z (by omega)) Z (A2 (A5 Z Z) Z (A6 ?_))))
   refine k1 ?_
   refine ⟨t+1,by omega,by omega,?_⟩
   rw [hsucc,hps,show ((a+(t+1):Nat):Int)=((a+t:Nat):Int)+1 by omega]
   exact G48 ⟨le1 rfl,le1 rfl,le1 rfl,le1 rfl,le1 rfl,le1 rfl,le1 rfl,le1 rfl,le1 rfl,le1 rfl,trivial⟩ ⟨rfl,rfl,rfl,rfl,rfl,trivial⟩
  ·have htb:a+t=b+1:=by
    have h0:¬((a+t:Nat):Int) < q.Last:=A1 ht
    omega
   obtain ⟨i0,hi0⟩:∃i0,i0=O3 l q.Old.From a t:=⟨_,rfl⟩
   have hib:i0=(cAt l b).Old+(cAt l b).OldLen:=by
    rw [hi0];unfold O3 Q6
    rw [if_neg (by omega),show a+t - 1=b by omega]
   unfold F7 at hgb
   obtain ⟨ls,hls⟩:∃ls,ls=L8 l x y q.Old.From a t:=⟨_,rfl⟩
   have hG:F6 l x y q=⟨q.Old.From,q.New.From,ls++J6 32 (sub x i0 q.Old.To)⟩:=by
    rw [F6,q1,q2,show ((a:Nat):Int).toNat=a by omega,show ((b:Int)+1).toNat - a=t by omega,←hls,←hi0]
   have l1:=V0 x i0 q.Old.To
   have hgn:g.length≤l.length:=hgl
   rw [←hls] at hml2 ⊢
   rw [←hi0]
   refine k6 (k2 ?_)
   refine J9 11 (by kernel_rfl) (by kernel_rfl) Z (A7 (A8 Z) Z Z (A7 (A9 Z Z Z) Z Z (A7 (A3 Z Z) Z Z (A7 (A3 Z Z) Z Z (A7 (A3 Z Z) Z Z (A7 (A3 Z Z) Z Z (A7 (B1 Z (.pure _ _ _ _) Z (by omega) hv) Z Z (A7 (B8 Z) Z Z (A7 (B8 Z) Z Z (A7 (B3 Z Z) Z Z (A7 (N9 Z (.pure _ _ _ _) Z Z (by omega) (by omega) (by omega)) Z Z (F4 (T8 (B78 ls 32 (sub x i0 q.Old.To) Z (by omega)) Z Z Z ?_)))))))))))));rintro _ _ ⟨rfl,rfl⟩;refine ⟨_,rfl,?_⟩;refine A7 (A8 Z) Z Z (Y5 (B9 TySz.out Z Z Z Z Z Z) Z (F4 ?_))
   refine k1 ?_
   refine A4 (A2 (A8 Z) Z (A2 (A9 Z Z Z) Z (A2 (D4 Z Z Z) Z (A2 (D8 (c:=phunkC) (ys:=[⟨q.Old.From,q.New.From,ls++J6 32 (sub x i0 q.Old.To)⟩]) (E5 Z Z Z Z G8) Z Z Z) Z (D1 (J2 Z Z Z (.pure _ _ _ _) (by (simp only [G81,G83];omega)) Z) Z (A2 (A8 Z) Z (F3 (B9 TySz.out Z Z Z Z Z Z) (A6 ?_))))))))
   rw [←hG,←htk]
   refine k4 (k1 ?_)
   refine A4 (A2 (A3 Z Z) Z (A2 (C0 Z Z (by omega)) Z (A2 (A5 Z Z) Z (A6 ?_))))
   refine k1 ?_
   exact ⟨k+1,by omega,by omega,G48 ⟨le1 rfl,le1 rfl,le1 rfl,le1 rfl,le1 rfl,le1 rfl,le1 rfl,trivial⟩ ⟨rfl,rfl,rfl,trivial⟩⟩
 ·have hk':k=g.length:=by have:=A1 ht;omega
  subst hk'
  rw [G95,←hho]
  have hsz:=hmd.sz
  have hch:=hmd.chk
  rw [←hx,←hy] at hsz hch
  refine k6 (k2 (k2 ?_))
  refine A4 (A2 (D4 Z Z Z) Z (C8 (p7 ⟨on,nn,F9 l x y ctx⟩ hsz) Z Z Z ?_));rintro _ rfl;refine A2 (A5 Z Z) Z (A6 ?_)
  rw [hch]
  refine k1 (k2 ?_)
  refine A4 (A2 (A3 Z Z) Z (A2 (J0 Z Z) Z (A6 ?_)))
  refine k1 ?_
  refine B5 rfl (fun ht=>?_) (fun ht=>?_)
  ·cases ht
  ·refine k5 (k1 (k2 ?_))
   refine A4 (A2 (D4 Z Z Z) Z (F3 (B9 TySz.out Z Z Z Z Z Z) (A2 (A5 Z Z) Z (A6 ?_))))
   refine k1 (k10 ?_)
   exact B6 (rs:=[pPatch ⟨on,nn,F9 l x y ctx⟩,G2 0]) (D63 rfl rfl rfl rfl rfl rfl rfl) (by rw [hmk])
theorem F94 (on nn a b:Str) (ctx:Int) (d:Bool) (ha:a.length≤4096) (hb:b.length≤4096) :
  FnOk Tryz.prog 63 [K6 on,K6 nn,K6 a,K6 b,G2 ctx,O4 d] (fun rs=>rs=[pPatch (R6 on nn a b ctx d).1,G2 (R6 on nn a b ctx d).2]):=F25 on nn a b ctx d (C24 ha) (C24 hb)
def K4 (hs:List PatchHunk) (r:Nat):List TC:=(L5 3 phunkC hs).set (r*3+2) (.mut 703)
def hunkLs (hs:List PatchHunk) (r:Nat):List PatchLine:=((hs[r]?).map (·.Lines)).getD []
theorem B45 {α:Type} {ec:Nat} {c:α→Nat→Cell}:∀(xs:List α) (x:α),L5 ec c (xs++[x])=L5 ec c xs++L5 ec c [x]
 | [],x=>rfl
 | y::ys,x=>by
  have ih:=B45 (ec:=ec) (c:=c) ys x
  simp only [H09,L5] at ih ⊢
  rw [ih];simp [G91]
theorem E72 {hs:List PatchHunk} {r:Nat} (h:PatchHunk) (hr:r≠hs.length):K4 (hs++[h]) r=K4 hs r++L5 3 phunkC [h]:=by
 unfold K4
 rw [B45]
 have hl:=I0 (ec:=3) (c:=phunkC) hs
 by_cases h1:r < hs.length
 ·rw [List.set_append_left _ _ (by omega)]
 ·have h2:(L5 3 phunkC hs).set (r*3+2) (TC.mut 703)=L5 3 phunkC hs:=List.set_eq_of_length_le (by omega)
  have h3:(L5 3 phunkC hs++L5 3 phunkC [h]).set (r*3+2) (TC.mut 703)=L5 3 phunkC hs++L5 3 phunkC [h]:=List.set_eq_of_length_le (by rw [G79,I0,I0,List.length_singleton];omega)
  rw [h2,h3]
theorem E73 (hs:List PatchHunk) (h:PatchHunk):K4 (hs++[h]) hs.length=K4 hs hs.length++[.p (phunkC h 0),.p (phunkC h 1),.mut 703]:=by
 unfold K4
 rw [B45,List.set_eq_of_length_le (l:=L5 3 phunkC hs) (by rw [I0];omega),List.set_append_right _ _ (by rw [I0];omega),I0,show hs.length*3+2 - hs.length*3=2 by omega]
 rfl
theorem E74 {hs:List PatchHunk} {r:Nat} (h:PatchHunk) (hr:r≠hs.length):hunkLs (hs++[h]) r=hunkLs hs r:=by
 unfold hunkLs
 by_cases h1:r < hs.length
 ·rw [G93 h1]
 ·rw [H06 (l:=hs) (by omega),H06 (by rw [G79,List.length_singleton];omega)]
theorem E75 (hs:List PatchHunk) (h:PatchHunk):hunkLs (hs++[h]) hs.length=h.Lines:=by unfold hunkLs;simp
theorem C63 {α:Type} {ec:Nat} {c:α→Nat→Cell}:∀(xs:List α),∀t∈L5 ec c xs,∃z,t=TC.p z
 | [],t,h=>by cases h
 | x::xs,t,h=>by
  unfold L5 at h
  rcases List.mem_append.1 h with h | h
  ·obtain ⟨z,_,rfl⟩:=List.mem_map.1 h
   exact ⟨_,rfl⟩
  ·exact C63 xs t h
theorem A54 {hs:List PatchHunk} {r:Nat}:∀t∈K4 hs r,(∃z,t=TC.p z)∨t=.mut 703:=fun t h=>by
 rcases List.mem_or_eq_of_mem_set h with h | h
 ·exact .inl (C63 _ t h)
 ·exact .inr h
theorem n5 (hs:List PatchHunk) (r:Nat) {k:Nat} (hk:Nat.beq 703 k=false):(K4 hs r).map (TC.forget k)=K4 hs r:=by
 conv=>rhs;rw [←List.map_id (K4 hs r)]
 refine List.map_congr_left fun t ht=>?_
 rcases A54 t ht with ⟨z,rfl⟩ | rfl
 ·rfl
 ·simp [TC.forget,hk]
theorem D48 (hs:List PatchHunk) (r:Nat) {k:Nat} (hk:Nat.beq 703 k=false) (α:Type) (ec:Nat) (c:α→Nat→Cell) (xs:List α):(K4 hs r).map (TC.freeze k α ec c xs)=K4 hs r:=by
 conv=>rhs;rw [←List.map_id (K4 hs r)]
 refine List.map_congr_left fun t ht=>?_
 rcases A54 t ht with ⟨z,rfl⟩ | rfl
 ·rfl
 ·simp [TC.freeze,hk]
theorem A14 (hs:List PatchHunk) (r:Nat) {k:Nat} (hk:Nat.beq 703 k=false):(K4 hs r).all (TC.free k)=true:=by
 rw [List.all_eq_true]
 intro t ht
 rcases A54 t ht with ⟨z,rfl⟩ | rfl
 ·rfl
 ·simp [TC.free,hk]
theorem C14 {α:Type} {ec:Nat} {c:α→Nat→Cell} (f:TC→TC) (hf:∀z,f (.p z)=.p z) (xs:List α):(L5 ec c xs).map f=L5 ec c xs:=by
 conv=>rhs;rw [←List.map_id (L5 ec c xs)]
 refine List.map_congr_left fun t ht=>?_
 obtain ⟨z,rfl⟩:=C63 xs t ht
 exact hf z
theorem D05 {α:Type} {ec:Nat} {c:α→Nat→Cell} (k:Nat) (xs:List α):(L5 ec c xs).all (TC.free k)=true:=by
 rw [List.all_eq_true]
 intro t ht
 obtain ⟨z,rfl⟩:=C63 xs t ht
 rfl
theorem E20 {hs:List PatchHunk} {r:Nat} (h:r < hs.length):(K4 hs r).map (TC.freeze 703 PatchLine 2 plineC (hunkLs hs r))=L5 3 phunkC hs:=by
 unfold K4
 rw [List.map_set,C14 _ (fun _=>rfl)]
 have hg:=c7 (c:=phunkC) hs r 2 hs[r] (G82 h) (show 2 < 3 by decide)
 have e:TC.freeze 703 PatchLine 2 plineC (hunkLs hs r) (.mut 703)=.p (phunkC hs[r] 2):=by
  unfold hunkLs
  rw [G82 h];rfl
 rw [e]
 refine List.ext_getElem? fun i=>?_
 rw [List.getElem?_set]
 by_cases hi:r*3+2=i
 ·subst hi
  rw [if_pos rfl,hg,if_pos (by rw [I0];omega)]
 ·rw [if_neg hi]
theorem F26 {hs:List PatchHunk} {r:Nat} (h:hs.length≤r):K4 hs r=L5 3 phunkC hs:=List.set_eq_of_length_le (by rw [I0];omega)
theorem E76 {Q:Nat→Ob→Prop}:∀{ob:Obs},(∀p∈ob,Q p.1 p.2)→∀i o,C9 ob i=some o→Q i o
 | [],_,_,_,h=>by cases h
 | (j,x)::r,hq,i,o,h=>by
  unfold C9 at h
  cases hb:Nat.beq j i
  ·rw [hb] at h;exact E76 (fun p hp=>hq p (List.mem_cons_of_mem _ hp)) i o h
  ·rw [hb] at h;cases h
   have e:j=i:=Nat.eq_of_beq_eq_true hb
   subst e
   exact hq (j,x) List.mem_cons_self
theorem retsC2 {P:Program} {fn:Func} {fr:Fr} {ob:Obs} {t t':Tmp} {k n:Nat} {tt:TypeId} {ts:List TC} {s':S1} [hty:TyAgg P tt n] (hr:fn.results=#[.cell t tt,.tmp t']) (ht:d9 fr t=some (.s (.one (.ref k 0)))) (hk:C9 ob k=some (.box ts)) (hn:ts.length=n)
  (ht':d9 fr t'=some (.s s')):RetS P fn fr ob [.agg ts,s']:=by
 unfold RetS
 intro S G a w h
 obtain ⟨b,hg,hu⟩:=h.slot ht
 obtain ⟨b',vs,tt',hg',hh,ha⟩:=h.box hk
 rw [hg] at hg';cases hg'
 have h2:(loadVar tt ⟨b,0,none⟩).run P w=.ok (.agg (List.toArray vs)) w:=V1 (ht:=hty) (by rw [←ha.length,hn]) (fun j z hz=>by rw [Nat.zero_add];exact cell_of_heap hh (by simpa using hz))
 rw [Array.getD_eq_getD_getElem?] at hu
 exact ⟨_,by simp [results,hr,hu,asAddr,h2],[_,_],rfl,⟨vs,rfl,ha⟩,h.slot ht',trivial⟩
set_option maxHeartbeats 1000000
theorem F27 (on nn a b:Str) (ctx:Int) (ha:a.length≤4096) (hb:b.length≤4096) (r:Nat) (hr:r < (R6 on nn a b ctx false).1.Hunks.length) :
  AL.Met Tryz.prog 63 [(K6 on).s1,(K6 nn).s1,(K6 a).s1,(K6 b).s1,(G2 ctx).s1,(O4 false).s1] [] [] []
   (fun rs ob'=>rs=[.agg [.p (.v (.string ⟨on.toArray⟩)),.p (.v (.string ⟨nn.toArray⟩)),.mut 702],.one (.p (.v (.int .i64 0)))]∧ob'=[(702,.growT 29 (R6 on nn a b ctx false).1.Hunks.length 3 (K4 (R6 on nn a b ctx false).1.Hunks r)),(703,.grow 36 PatchLine 2 plineC (hunkLs (R6 on nn a b ctx false).1.Hunks r))]):=by
 obtain ⟨x,hx⟩:∃x,x=B7 a:=⟨_,rfl⟩
 obtain ⟨y,hy⟩:∃y,y=B7 b:=⟨_,rfl⟩
 obtain ⟨f1,f2⟩:=P5 a
 obtain ⟨f3,f4⟩:=P5 b
 rw [←hx] at f1 f2
 rw [←hy] at f3 f4
 have hsa:=n9 ha
 have hsb:=n9 hb
 rw [←hx] at hsa
 rw [←hy] at hsb
 have hxm:∀s∈x,s∈C3 [x,y]:=fun s hs=>Q5 _ _ x (by simp) hs
 have hym:∀s∈y,s∈C3 [x,y]:=fun s hs=>Q5 _ _ y (by simp) hs
 have i1:(E2 (C3 [x,y]) x).length=x.length:=by simp [E2]
 have i2:(E2 (C3 [x,y]) y).length=y.length:=by simp [E2]
 have hs0:=A03 x y (by omega) (by omega)
 have hs0l:=v6 x y
 obtain ⟨d,hd0⟩:∃d,d=false:=⟨_,rfl⟩
 rw [←hd0] at hr ⊢
 have hdf:=(s5 x y d (by omega) (by omega)).1
 have hdl:=A98 x y d (by omega) (by omega)
 obtain ⟨l,hl⟩:∃l,l=l4 x y d:=⟨_,rfl⟩
 rw [←hl] at hdf hdl
 have hmk:R6 on nn a b ctx d=if G7 on=false∨G7 nn=false then (X4,120) else if ctx < 0∨1048576 < ctx then (X4,3) else (⟨on,nn,F9 l x y ctx⟩,0):=by rw [hl,hx,hy];rfl
 have hxl:x.length≤4096:=by omega
 have hyl:y.length≤4096:=by omega
 refine AL.Met.intro Tryz.func63 (by decide) Z Z Z ?_
 refine k2 ?_
 refine A4 (D1 (G5 12 Z) Z (A2 (A5 Z Z) Z (A6 ?_)))
 refine k1 (k2 (k2 ?_))
 refine A4 (A2 (A3 Z Z) Z (C8 (A35 on) Z Z Z ?_));rintro _ rfl;refine A2 (J8 Z) Z (A2 (A3 Z Z) Z (B0 Z Z Z Z (fun hg=>by rw [hg];exact A3 Z Z) ?_));refine B0 Z Z Z Z (fun hg=>by have hq:=hg;(try simp at hq);rw [hg];exact F5 (A35 nn) Z Z) ?_;refine B0 Z Z Z Z (fun hg=>by rw [hg];exact J8 Z) ?_;refine A2 (B2 Z (fun h=>by first | rfl | (rw [h];rfl)) (fun h=>by first | rfl | (rw [h];rfl))) Z ?_;refine A6 ?_
 refine k1 ?_
 refine B5 rfl (fun ht=>?_) (fun ht=>?_)
 ·simp only [B17,or_pick] at ht
  have h:=A0 ht
  rw [hmk,if_pos h] at hr
  exact absurd hr (Nat.not_lt_zero _)
 simp only [B17,or_pick] at ht
 have h:=A1 ht
 rw [if_neg h] at hmk
 have hn1:G7 on=true:=by cases q:G7 on<;>simp [q] at h ⊢
 have hn2:G7 nn=true:=by cases q:G7 nn<;>simp [q] at h ⊢
 refine k5 (k1 (k2 ?_))
 refine A4 (A2 (A3 Z Z) Z (C8 (B05 a (by omega)) Z Z Z ?_));rintro _ rfl;refine A2 (A3 Z Z) Z (A2 (C6 Z Z) Z (A2 (C6 Z Z) Z (A2 (A5 Z Z) Z (A2 (A5 Z Z) Z (A6 ?_)))))
 rw [hsa]
 refine k1 (k2 (k2 ?_))
 refine A4 (A2 (A3 Z Z) Z (A2 (J0 Z Z) Z (A6 ?_)))
 refine k1 ?_
 refine B5 rfl (fun ht=>?_) (fun ht=>?_)
 ·cases ht
 refine k5 (k1 (k2 ?_))
 refine A4 (A2 (A3 Z Z) Z (C8 (B05 b (by omega)) Z Z Z ?_));rintro _ rfl;refine A2 (A3 Z Z) Z (A2 (C6 Z Z) Z (A2 (C6 Z Z) Z (A2 (A5 Z Z) Z (A2 (A5 Z Z) Z (A6 ?_)))))
 rw [hsb]
 refine k1 (k2 (k2 ?_))
 refine A4 (A2 (A3 Z Z) Z (A2 (J0 Z Z) Z (A6 ?_)))
 refine k1 ?_
 refine B5 rfl (fun ht=>?_) (fun ht=>?_)
 ·cases ht
 refine k5 (k1 (k2 ?_))
 refine A4 (A2 (A3 Z Z) Z (A2 (A3 Z Z) Z (C8 (D02 x y hxl hyl) Z Z Z ?_)));rintro _ rfl;refine A2 (A5 Z Z) Z (A6 ?_)
 rw [show y9 (E2 (C3 [x,y]) x) (E2 (C3 [x,y]) y)=F0 x y from rfl]
 refine I1 ?_
 refine O5 [(0,P7 on),(1,P7 nn),(4,C1 ctx),(5,K1 (.bool d)),(12,.s (.one (.ref 12 0))),(14,C4 Str 1 I3 x),(16,C4 Str 1 I3 y),(17,C4 Change 4 changeC (F0 x y))] [(12,.box [.p (.v (.string ⟨#[]⟩)),.p (.v (.string ⟨#[]⟩)),.p (.v (.slice none 0 0))])] (G48 ⟨le1 rfl,le1 rfl,le1 rfl,le1 rfl,le1 rfl,le1 rfl,le1 rfl,le1 rfl,trivial⟩ ⟨rfl,trivial⟩) ?_
 refine j1 [(0,P7 on),(1,P7 nn),(4,C1 ctx),(12,.s (.one (.ref 12 0))),(14,C4 Str 1 I3 x),(16,C4 Str 1 I3 y),(17,C4 Change 4 changeC l)] [(12,.box [.p (.v (.string ⟨#[]⟩)),.p (.v (.string ⟨#[]⟩)),.p (.v (.slice none 0 0))])] ?_ ?_
 ·refine k2 ?_
  refine A4 (A2 (A3 Z Z) Z (A6 ?_))
  refine k1 ?_
  refine B5 rfl (fun ht=>?_) (fun ht=>?_)
  ·have hd:d=true:=ht
   rw [hd0] at hd;cases hd
  ·have hd:d=false:=ht
   have hl2:l=F0 x y:=by rw [hl,hd];rfl
   rw [←hl2]
   refine k5 (k1 ?_)
   exact G48 ⟨le1 rfl,le1 rfl,le1 rfl,le1 rfl,le1 rfl,le1 rfl,le1 rfl,trivial⟩ ⟨rfl,trivial⟩
 refine k2 ?_
 refine A4 (A2 (A3 Z Z) Z (A2 (A3 Z Z) Z (A2 (E0 Z (.pure _ _ _ _)) Z (A2 (A3 Z Z) Z (A2 (E0 Z (.pure _ _ _ _)) Z (A2 (A3 Z Z) Z (C8 (D01 l x.length y.length ctx (by omega)) Z Z Z ?_)))))));rintro _ rfl;refine A2 (A3 Z Z) Z (A2 (C6 Z Z) Z (A2 (C6 Z Z) Z (A2 (A5 Z Z) Z (A2 (A5 Z Z) Z (A6 ?_)))))
 refine k1 (k2 (k2 ?_))
 by_cases hcx:ctx < 0∨1048576 < ctx
 ·rw [hmk,if_pos hcx] at hr
  exact absurd hr (Nat.not_lt_zero _)
 rw [C23 hdf hcx]
 rw [if_neg hcx] at hmk
 have hmd:=D98 on nn a b l ctx hn1 hn2 hcx ha hb (by rw [←hx,←hy];exact hdf)
 have hsc:=hdf.ok
 have hgo:=A58 hdf.ok (by omega) (ctx:=ctx) l.length (Nat.le_refl _)
 have hgl:=(U3 l x.length ctx l.length).1
 have hho:F9 l x y ctx=(F2 l x.length ctx l.length).map (F6 l x y):=rfl
 obtain ⟨g,hg⟩:∃g,g=F2 l x.length ctx l.length:=⟨_,rfl⟩
 have hscl:=hdl
 rw [←hg] at hgo hgl hho ⊢
 refine A4 (A2 (A3 Z Z) Z (A2 (J0 Z Z) Z (A6 ?_)))
 refine k1 ?_
 refine B5 rfl (fun ht=>?_) (fun ht=>?_)
 ·cases ht
 refine O5 [(0,P7 on),(1,P7 nn),(12,.s (.one (.ref 12 0))),(14,C4 Str 1 I3 x),(16,C4 Str 1 I3 y),(17,C4 Change 4 changeC l),(19,C4 Hunk 6 hunkC g)] [(12,.box [.p (.v (.string ⟨#[]⟩)),.p (.v (.string ⟨#[]⟩)),.p (.v (.slice none 0 0))])] (G48 ⟨le1 rfl,le1 rfl,le1 rfl,le1 rfl,le1 rfl,le1 rfl,le1 rfl,trivial⟩ ⟨rfl,trivial⟩) ?_
 refine k5 (k1 (k2 ?_))
 refine A4 (A2 (A3 Z Z) Z (A2 (A3 Z Z) Z (A2 (I6 Z) Z (D1 (G5 20 Z) Z (F3 (B9 TySz.out Z Z Z Z Z Z) (A6 ?_))))))
 refine k1 (k2 (k2 ?_))
 refine J3 (G61 702 PatchHunk 3 phunkC 29 (kb:=20) (o:=2) Z Z Z) ?_
 refine J3 (G77 702 Z) ?_
 refine J3 (G75 703 PatchLine 2 plineC 36 Z) ?_
 skip
 refine A4 (A2 (A5 Z Z) Z (A6 ?_))
 refine k1 (k3 ?_)
 refine D9 (X:=Nat) (fun k=>([(12,.s (.one (.ref 12 0))),(14,C4 Str 1 I3 x),(16,C4 Str 1 I3 y),(17,C4 Change 4 changeC l),(19,C4 Hunk 6 hunkC g),(20,.s (.one (.ref 20 0))),(21,C1 k)],[(12,.box [.p (.v (.string ⟨#[]⟩)),.p (.v (.string ⟨#[]⟩)),.p (.v (.slice none 0 0))]),(20,.box [.p (.v (.string ⟨on.toArray⟩)),.p (.v (.string ⟨nn.toArray⟩)),.mut 702]),(702,.growT 29 ((g.take k).map (F6 l x y)).length 3 (K4 ((g.take k).map (F6 l x y)) r)),(703,.grow 36 PatchLine 2 plineC (hunkLs ((g.take k).map (F6 l x y)) r))])) (fun k=>k≤g.length) (fun k=>g.length - k) 0 (Nat.zero_le _) ?_ ?_
 ·have e0:hunkLs (((g.take 0)).map (F6 l x y)) r=[]:=by simp [hunkLs]
  dsimp only
  rw [e0]
  exact G48 ⟨le1 rfl,le1 rfl,le1 rfl,le1 rfl,le1 rfl,le1 rfl,le1 rfl,trivial⟩ ⟨rfl,rfl,rfl,rfl,trivial⟩
 intro k hk
 dsimp only at hk ⊢
 refine k2 (k2 ?_)
 refine A4 (A2 (A3 Z Z) Z (A2 (A3 Z Z) Z (A2 (E0 Z (.pure _ _ _ _)) Z (A2 (E9 Z Z) Z (A6 ?_)))))
 refine k1 ?_
 refine B5 rfl (fun ht=>?_) (fun ht=>?_)
 ·have hlt:k < g.length:=by have:=A0 ht;omega
  have hv:g[k]?=some g[k]:=by simp [hlt]
  have hq:=hgo _ (G97 hlt)
  have htk:(g.take (k+1)).map (F6 l x y)=(g.take k).map (F6 l x y)++[F6 l x y g[k]]:=by rw [G89 hlt,H02];rfl
  obtain ⟨q,hqe⟩:∃q,q=g[k]:=⟨_,rfl⟩
  rw [←hqe] at hv hq htk
  obtain ⟨hs,hhs⟩:∃hs,hs=(g.take k).map (F6 l x y):=⟨_,rfl⟩
  have hhl:hs.length=k:=by rw [hhs,H20,G90];omega
  rw [←hhs] at htk ⊢
  obtain ⟨a,b,q1,q2,q3,q4,q5,q6,q7,q8,q9,q10⟩:=hq
  have hgb:=hsc.get b q4
  refine k5 (k1 (k2 (k3 (k2 ?_))))
  refine A84 13 22 (by kernel_rfl) (by kernel_rfl) Z (by show ((K4 hs r).all (TC.free 22)&&true)=true;rw [A14 hs r rfl];rfl) Z ?_;refine U1 (A3 Z Z) Z (A3 Z Z) (U1 (A3 Z Z) Z (A3 Z Z) (U1 (B1 Z (.pure _ _ _ _) Z (by omega) hv) Z (B1 Z (.pure _ _ _ _) Z (by omega) hv) (U1 (B8 Z) Z (B8 Z) (U1 (B8 Z) Z (B8 Z) (U1 (B3 Z Z) Z (B3 Z Z) (U1 (A3 Z Z) Z (A3 Z Z) (U1 (A3 Z Z) Z (A3 Z Z) (U1 (B1 Z (.pure _ _ _ _) Z (by omega) hv) Z (B1 Z (.pure _ _ _ _) Z (by omega) hv) (U1 (B8 Z) Z (B8 Z) (U1 (B8 Z) Z (B8 Z) (U1 (B3 Z Z) Z (B3 Z Z) (U1 (I6 Z) Z (I6 Z) (b_nil Z (Y5 (B9 TySz.out Z Z Z Z Z Z) Z (F4 ?_)))))))))))))))
  refine k1 (k2 ?_)
  refine J3 (G61 701 PatchLine 2 plineC 36 (kb:=22) (o:=2) Z Z (by show ((K4 hs r).all (TC.free 701)&&true)=true;rw [A14 hs r rfl];rfl)) ?_
  refine A4 (A2 (A8 Z) Z (A2 (A9 Z Z Z) Z (A2 (A5 Z Z) Z (A6 ?_))))
  refine k1 (k2 (k2 ?_))
  refine A4 (A2 (A3 Z Z) Z (A2 (A3 Z Z) Z (A2 (B1 Z (.pure _ _ _ _) Z (by omega) hv) Z (A2 (B8 Z) Z (A2 (B3 Z Z) Z (A2 (A5 Z Z) Z (A6 ?_)))))))
  refine k1 (k3 ?_)
  refine D9 (X:=Nat) (fun t=>([(12,.s (.one (.ref 12 0))),(14,C4 Str 1 I3 x),(16,C4 Str 1 I3 y),(17,C4 Change 4 changeC l),(19,C4 Hunk 6 hunkC g),(20,.s (.one (.ref 20 0))),(21,C1 k),(22,.s (.one (.ref 22 0))),(23,C1 (O3 l q.Old.From a t)),(24,C1 ((a+t:Nat):Int))],[(12,.box [.p (.v (.string ⟨#[]⟩)),.p (.v (.string ⟨#[]⟩)),.p (.v (.slice none 0 0))]),(20,.box [.p (.v (.string ⟨on.toArray⟩)),.p (.v (.string ⟨nn.toArray⟩)),.mut 702]),(702,.growT 29 hs.length 3 (K4 hs r)),(703,.grow 36 PatchLine 2 plineC (hunkLs hs r)),(22,.box [.p (.v (.int .i64 q.Old.From)),.p (.v (.int .i64 q.New.From)),.mut 701]),(701,.grow 36 PatchLine 2 plineC (L8 l x y q.Old.From a t))])) (fun t=>a+t≤b+1) (fun t=>b+1 - (a+t)) 0 (by omega) ?_ ?_
  ·have e1:O3 l q.Old.From a 0=q.Old.From:=if_pos rfl
   rw [e1,show ((a+0:Nat):Int)=q.First by rw [q1];simp]
   exact G48 ⟨le1 rfl,le1 rfl,le1 rfl,le1 rfl,le1 rfl,le1 rfl,le1 rfl,le1 rfl,le1 rfl,le1 rfl,trivial⟩ ⟨rfl,rfl,rfl,rfl,rfl,rfl,trivial⟩
  intro t hat
  dsimp only at hat ⊢
  have hml:=B50 l x y q.Old.From a t
  have hml2:(L8 l x y q.Old.From a t).length≤4097*12288:=Nat.le_trans hml (Nat.mul_le_mul (by omega) (by omega))
  refine k2 (k2 ?_)
  refine A4 (A2 (A3 Z Z) Z (A2 (A3 Z Z) Z (A2 (A3 Z Z) Z (A2 (B1 Z (.pure _ _ _ _) Z (by omega) hv) Z (A2 (B8 Z) Z (A2 (B3 Z Z) Z (A2 (E9 Z Z) Z (A6 ?_))))))))
  refine k1 ?_
  refine B5 rfl (fun ht=>?_) (fun ht=>?_)
  ·have hlt2:a+t≤b:=by have:((a+t:Nat):Int) < q.Last:=A0 ht;omega
   obtain ⟨c,hc⟩:∃c,c=cAt l (a+t):=⟨_,rfl⟩
   have hcv:l[((a+t:Nat):Int).toNat]?=some c:=by rw [hc];exact S8 (by omega)
   have hgc:=hsc.get (a+t) (by omega)
   rw [←hc] at hgc
   obtain ⟨⟨g1,g2⟩,⟨g3,g4⟩,⟨g5,g6⟩,⟨g7,g8⟩,g9,g10⟩:=hgc
   obtain ⟨i0,hi0⟩:∃i0,i0=O3 l q.Old.From a t:=⟨_,rfl⟩
   have hpos:0≤i0∧i0≤c.Old:=by
    rw [hi0,hc];unfold O3 Q6
    split
    ·rename_i h0;subst h0;exact ⟨q5,q6⟩
    ·have h4:=hsc.next (a+t - 1) (by omega)
     have h5:=hsc.get (a+t - 1) (by omega)
     rw [show a+t - 1+1=a+t by omega] at h4
     unfold F7 at h5;omega
   obtain ⟨ls,hls⟩:∃ls,ls=L8 l x y q.Old.From a t:=⟨_,rfl⟩
   obtain ⟨p1,hp1⟩:∃p1,p1=J6 32 (sub x i0 c.Old):=⟨_,rfl⟩
   obtain ⟨p2,hp2⟩:∃p2,p2=J6 45 (sub x c.Old (Q6 c)):=⟨_,rfl⟩
   obtain ⟨p3,hp3⟩:∃p3,p3=J6 43 (sub y c.New (c.New+c.NewLen)):=⟨_,rfl⟩
   have hsucc:L8 l x y q.Old.From a (t+1)=ls++p1++p2++p3:=by rw [hls,hp1,hp2,hp3,hi0,hc];rfl
   have hps:O3 l q.Old.From a (t+1)=Q6 c:=by rw [A60,hc]
   have l1:=V0 x i0 c.Old
   have l2:=V0 x c.Old (Q6 c)
   have l3:=V0 y c.New (c.New+c.NewLen)
   have m1:p1.length=(sub x i0 c.Old).length:=by rw [hp1,V8]
   have m2:p2.length=(sub x c.Old (Q6 c)).length:=by rw [hp2,V8]
   have hend:Q6 c=c.Old+c.OldLen:=rfl
   rw [←hls] at hml2 ⊢
   rw [←hi0]
   refine k5 (k1 (k2 (k3 (k2 ?_))))
   refine J9 10 (by kernel_rfl) (by kernel_rfl) Z (A7 (A8 Z) Z Z (A7 (A9 Z Z Z) Z Z (A7 (A3 Z Z) Z Z (A7 (A3 Z Z) Z Z (A7 (A3 Z Z) Z Z (A7 (A3 Z Z) Z Z (A7 (B1 Z (.pure _ _ _ _) Z (by omega) hcv) Z Z (A7 (B8 Z) Z Z (A7 (B3 Z Z) Z Z (A7 (N9 Z (.pure _ _ _ _) Z Z (by omega) (by omega) (by omega)) Z Z (F4 (T8 (B06 ls 32 (sub x i0 c.Old) Z (by omega)) Z Z Z ?_))))))))))));rintro _ _ ⟨rfl,rfl⟩;refine ⟨_,rfl,?_⟩;refine A7 (A8 Z) Z Z (Y5 (B9 TySz.out Z Z Z Z Z Z) Z (F4 ?_))
   rw [←hp1]
   refine k1 (k2 ?_)
   refine C5 (by kernel_rfl) (by kernel_rfl) (A7 (A3 Z Z) Z Z (A7 (A3 Z Z) Z Z (A7 (B1 Z (.pure _ _ _ _) Z (by omega) hcv) Z Z (A7 (B8 Z) Z Z (A7 (B3 Z Z) Z Z (A7 (A3 Z Z) Z Z (A7 (A3 Z Z) Z Z (A7 (B1 Z (.pure _ _ _ _) Z (by omega) hcv) Z Z (A7 (B8 Z) Z Z (A7 (B3 Z Z) Z Z (A7 (C0 Z Z (by omega)) Z Z (A7 (A5 Z Z) Z Z (F4 ?_)))))))))))))
   rw [show c.Old+c.OldLen=Q6 c from rfl]
   refine k1 (k2 ?_)
   refine J9 10 (by kernel_rfl) (by kernel_rfl) Z (A7 (A8 Z) Z Z (A7 (A9 Z Z Z) Z Z (A7 (A3 Z Z) Z Z (A7 (A3 Z Z) Z Z (A7 (A3 Z Z) Z Z (A7 (B1 Z (.pure _ _ _ _) Z (by omega) hcv) Z Z (A7 (B8 Z) Z Z (A7 (B3 Z Z) Z Z (A7 (A3 Z Z) Z Z (A7 (N9 Z (.pure _ _ _ _) Z Z (by omega) (by omega) (by omega)) Z Z (F4 (T8 (B06 (ls++p1) 45 (sub x c.Old (Q6 c)) Z (by simp only [G79];omega)) Z Z Z ?_))))))))))));rintro _ _ ⟨rfl,rfl⟩;refine ⟨_,rfl,?_⟩;refine A7 (A8 Z) Z Z (Y5 (B9 TySz.out Z Z Z Z Z Z) Z (F4 ?_))
   rw [←hp2]
   refine k1 ?_
   refine J9 20 (by kernel_rfl) (by kernel_rfl) Z (A7 (A8 Z) Z Z (A7 (A9 Z Z Z) Z Z (A7 (A3 Z Z) Z Z (A7 (A3 Z Z) Z Z (A7 (A3 Z Z) Z Z (A7 (B1 Z (.pure _ _ _ _) Z (by omega) hcv) Z Z (A7 (B8 Z) Z Z (A7 (B3 Z Z) Z Z (A7 (A3 Z Z) Z Z (A7 (A3 Z Z) Z Z (A7 (B1 Z (.pure _ _ _ _) Z (by omega) hcv) Z Z (A7 (B8 Z) Z Z (A7 (B3 Z Z) Z Z (A7 (A3 Z Z) Z Z (A7 (A3 Z Z) Z Z (A7 (B1 Z (.pure _ _ _ _) Z (by omega) hcv) Z Z (A7 (B8 Z) Z Z (A7 (B3 Z Z) Z Z (A7 (C0 Z Z (by omega)) Z Z (A7 (N9 Z (.pure _ _ _ _) Z Z (by omega) (by omega) (by omega)) Z Z (F4 (T8 (B06 (ls++p1++p2) 43 (sub y c.New (c.New+c.NewLen)) Z (by simp only [G79];omega)) Z Z Z ?_))))))))))))))))))))));rintro _ _ ⟨rfl,rfl⟩;refine ⟨_,rfl,?_⟩;refine A7 (A8 Z) Z Z (Y5 (B9 TySz.out Z Z Z Z Z Z) Z (F4 ?_))
   rw [←hp3]
   refine k4 (k1 ?_)
   refine A4 (A2 (A3 Z Z) Z (A2 (C0 Z Z (by omega)) Z (A2 (A5 Z Z) Z (A6 ?_))))
   refine k1 ?_
   refine ⟨t+1,by omega,by omega,?_⟩
   rw [hsucc,hps,show ((a+(t+1):Nat):Int)=((a+t:Nat):Int)+1 by omega]
   exact G48 ⟨le1 rfl,le1 rfl,le1 rfl,le1 rfl,le1 rfl,le1 rfl,le1 rfl,le1 rfl,le1 rfl,le1 rfl,trivial⟩ ⟨rfl,rfl,(by show some (Ob.growT 29 hs.length 3 (List.map (TC.forget 701) (List.map (TC.forget 701) (List.map (TC.forget 701) (K4 hs r)))))=_;simp only [n5 hs r (k:=701) rfl]),rfl,rfl,rfl,trivial⟩
  ·have htb:a+t=b+1:=by
    have h0:¬((a+t:Nat):Int) < q.Last:=A1 ht
    omega
   obtain ⟨i0,hi0⟩:∃i0,i0=O3 l q.Old.From a t:=⟨_,rfl⟩
   have hib:i0=(cAt l b).Old+(cAt l b).OldLen:=by
    rw [hi0];unfold O3 Q6
    rw [if_neg (by omega),show a+t - 1=b by omega]
   unfold F7 at hgb
   obtain ⟨ls,hls⟩:∃ls,ls=L8 l x y q.Old.From a t:=⟨_,rfl⟩
   have hG:F6 l x y q=⟨q.Old.From,q.New.From,ls++J6 32 (sub x i0 q.Old.To)⟩:=by
    rw [F6,q1,q2,show ((a:Nat):Int).toNat=a by omega,show ((b:Int)+1).toNat - a=t by omega,←hls,←hi0]
   have l1:=V0 x i0 q.Old.To
   have hgn:g.length≤l.length:=hgl
   rw [←hls] at hml2 ⊢
   rw [←hi0]
   refine k6 (k2 ?_)
   refine J9 11 (by kernel_rfl) (by kernel_rfl) Z (A7 (A8 Z) Z Z (A7 (A9 Z Z Z) Z Z (A7 (A3 Z Z) Z Z (A7 (A3 Z Z) Z Z (A7 (A3 Z Z) Z Z (A7 (A3 Z Z) Z Z (A7 (B1 Z (.pure _ _ _ _) Z (by omega) hv) Z Z (A7 (B8 Z) Z Z (A7 (B8 Z) Z Z (A7 (B3 Z Z) Z Z (A7 (N9 Z (.pure _ _ _ _) Z Z (by omega) (by omega) (by omega)) Z Z (F4 (T8 (B06 ls 32 (sub x i0 q.Old.To) Z (by omega)) Z Z Z ?_)))))))))))));rintro _ _ ⟨rfl,rfl⟩;refine ⟨_,rfl,?_⟩;refine A7 (A8 Z) Z Z (Y5 (B9 TySz.out Z Z Z Z Z Z) Z (F4 ?_))
   refine k1 ?_
   by_cases hkr:k=r
   ·subst hkr
    have hoff:K4 hs k=L5 3 phunkC hs:=F26 (by omega)
    refine O5 [(12,.s (.one (.ref 12 0))),(14,C4 Str 1 I3 x),(16,C4 Str 1 I3 y),(17,C4 Change 4 changeC l),(19,C4 Hunk 6 hunkC g),(20,.s (.one (.ref 20 0))),(21,C1 k),(22,.s (.one (.ref 22 0)))] [(12,.box [.p (.v (.string ⟨#[]⟩)),.p (.v (.string ⟨#[]⟩)),.p (.v (.slice none 0 0))]),(20,.box [.p (.v (.string ⟨on.toArray⟩)),.p (.v (.string ⟨nn.toArray⟩)),.mut 702]),(702,.growT 29 hs.length 3 (L5 3 phunkC hs)),(22,.box [.p (.v (.int .i64 q.Old.From)),.p (.v (.int .i64 q.New.From)),.mut 701]),(701,.grow 36 PatchLine 2 plineC (ls++J6 32 (sub x i0 q.Old.To)))] (G48 ⟨le1 rfl,le1 rfl,le1 rfl,le1 rfl,le1 rfl,le1 rfl,le1 rfl,le1 rfl,trivial⟩ ⟨rfl,rfl,(by show some (Ob.growT 29 hs.length 3 (List.map (TC.forget 701) (K4 hs k)))=_;rw [n5 hs k (k:=701) rfl,hoff]),rfl,rfl,trivial⟩) ?_
    refine J3 (G74 (ob':=[(12,.box [.p (.v (.string ⟨#[]⟩)),.p (.v (.string ⟨#[]⟩)),.p (.v (.slice none 0 0))]),(20,.box [.p (.v (.string ⟨on.toArray⟩)),.p (.v (.string ⟨nn.toArray⟩)),.mut 702]),(702,.growT 29 hs.length 3 (L5 3 phunkC hs)),(22,.box [.p (.v (.int .i64 q.Old.From)),.p (.v (.int .i64 q.New.From)),.mut 703]),(703,.grow 36 PatchLine 2 plineC (ls++J6 32 (sub x i0 q.Old.To)))]) (j:=701) (k:=703) rfl rfl (by decide) rfl (E76 ?_)) ?_
    ·intro p hp
     simp only [List.mem_cons,List.not_mem_nil,or_false] at hp
     rcases hp with rfl | rfl | rfl | rfl | rfl
     ·exact ⟨by dsimp only;omega,_,rfl,rfl,rfl⟩
     ·exact ⟨by dsimp only;omega,_,rfl,rfl,rfl⟩
     ·exact ⟨by dsimp only;omega,_,rfl,D05 _ _,by show Ob.growT _ _ _ _=Ob.growT _ _ _ (List.map (TC.ren 701 703) (L5 3 phunkC hs));rw [C14 _ (fun _=>rfl)]⟩
     ·exact ⟨by dsimp only;omega,_,rfl,rfl,rfl⟩
     ·exact ⟨by dsimp only;omega,_,rfl,rfl,rfl⟩
    skip
    refine A4 (A2 (A8 Z) Z (A2 (A9 Z Z Z) Z (A2 (D4 Z Z Z) Z (D1 (E58 735 Z Z Z Z Z (by show ((L5 3 phunkC hs).all (TC.free 735)&&true)=true;rw [D05];rfl)) Z ?_))));refine D1 (B77 Z Z Z Z (by (omega)) Z) Z ?_;refine A2 (A8 Z) Z (F3 (B9 TySz.out Z Z Z Z Z Z) (A6 ?_))
    refine k4 (k1 ?_)
    refine A4 (A2 (A3 Z Z) Z (A2 (C0 Z Z (by omega)) Z (A2 (A5 Z Z) Z (A6 ?_))))
    refine k1 ?_
    refine ⟨k+1,by omega,by omega,?_⟩
    have e1:=E73 hs ⟨q.Old.From,q.New.From,(ls++J6 32 (sub x i0 q.Old.To))⟩
    have e2:=E75 hs ⟨q.Old.From,q.New.From,(ls++J6 32 (sub x i0 q.Old.To))⟩
    rw [hhl] at e1 e2
    dsimp only
    rw [htk,hG,e1,e2,hoff,G79]
    exact G48 ⟨le1 rfl,le1 rfl,le1 rfl,le1 rfl,le1 rfl,le1 rfl,le1 rfl,trivial⟩ ⟨rfl,rfl,(by show some (Ob.growT 29 (hs.length+1) 3 (List.map (TC.forget 702) (L5 3 phunkC hs++[_,_,.mut 703])))=_;rw [H02,C14 _ (fun _=>rfl)];rfl),rfl,trivial⟩
   ·refine J3 (Sees.freezeG (k:=701) Z Z) ?_
    refine O5 [(12,.s (.one (.ref 12 0))),(14,C4 Str 1 I3 x),(16,C4 Str 1 I3 y),(17,C4 Change 4 changeC l),(19,C4 Hunk 6 hunkC g),(20,.s (.one (.ref 20 0))),(21,C1 k),(22,.s (.one (.ref 22 0)))] [(12,.box [.p (.v (.string ⟨#[]⟩)),.p (.v (.string ⟨#[]⟩)),.p (.v (.slice none 0 0))]),(20,.box [.p (.v (.string ⟨on.toArray⟩)),.p (.v (.string ⟨nn.toArray⟩)),.mut 702]),(702,.growT 29 hs.length 3 (K4 hs r)),(703,.grow 36 PatchLine 2 plineC (hunkLs hs r)),(22,.box [.p (.v (.int .i64 q.Old.From)),.p (.v (.int .i64 q.New.From)),.p (.list PatchLine 2 plineC (ls++J6 32 (sub x i0 q.Old.To)))])] (G48 ⟨le1 rfl,le1 rfl,le1 rfl,le1 rfl,le1 rfl,le1 rfl,le1 rfl,le1 rfl,trivial⟩ ⟨rfl,rfl,(by show some (Ob.growT 29 hs.length 3 (List.map (TC.freeze 701 PatchLine 2 plineC (ls++J6 32 (sub x i0 q.Old.To))) (List.map (TC.forget 701) (K4 hs r))))=_;rw [n5 hs r (k:=701) rfl,D48 hs r (k:=701) rfl]),rfl,rfl,trivial⟩) ?_
    skip
    refine A4 (A2 (A8 Z) Z (A2 (A9 Z Z Z) Z (A2 (D4 Z Z Z) Z (D1 (E58 735 Z Z Z Z Z (by show ((K4 hs r).all (TC.free 735)&&true)=true;rw [A14 hs r rfl];rfl)) Z ?_))));refine D1 (B77 Z Z Z Z (by (omega)) Z) Z ?_;refine A2 (A8 Z) Z (F3 (B9 TySz.out Z Z Z Z Z Z) (A6 ?_))
    refine k4 (k1 ?_)
    refine A4 (A2 (A3 Z Z) Z (A2 (C0 Z Z (by omega)) Z (A2 (A5 Z Z) Z (A6 ?_))))
    refine k1 ?_
    refine ⟨k+1,by omega,by omega,?_⟩
    dsimp only
    rw [htk,hG,E72 _ (show r≠hs.length by omega),E74 _ (show r≠hs.length by omega),G79]
    exact G48 ⟨le1 rfl,le1 rfl,le1 rfl,le1 rfl,le1 rfl,le1 rfl,le1 rfl,trivial⟩ ⟨rfl,rfl,(by show some (Ob.growT 29 (hs.length+1) 3 (List.map (TC.forget 702) (K4 hs r++L5 3 phunkC [⟨q.Old.From,q.New.From,ls++J6 32 (sub x i0 q.Old.To)⟩])))=_;rw [H02,n5 hs r (k:=702) rfl];rfl),rfl,trivial⟩
 ·have hk':k=g.length:=by have:=A1 ht;omega
  subst hk'
  rw [G95,←hho]
  have hsz:=hmd.sz
  have hch:=hmd.chk
  rw [←hx,←hy] at hsz hch
  refine k6 (k2 (k2 ?_))
  have hrl:r < (F9 l x y ctx).length:=by rw [hmk] at hr;exact hr
  have hm1:(R6 on nn a b ctx d).1.Hunks=F9 l x y ctx:=by rw [hmk]
  rw [hm1]
  refine A4 (A2 (D4 Z Z Z) Z (G24 ((Sees.freezeG (k:=703) Z rfl).trans ((G78 702 (F9 l x y ctx) Z Z (E20 hrl)).trans (Sees.freezeG (k:=702) Z Z))) (p7 ⟨on,nn,F9 l x y ctx⟩ hsz) Z Z Z ?_));rintro _ rfl;refine ⟨fun _ _ _ h=>h,?_⟩;refine A2 (A5 Z Z) Z (A6 ?_)
  rw [hch]
  refine k1 (k2 ?_)
  refine A4 (A2 (A3 Z Z) Z (A2 (J0 Z Z) Z (A6 ?_)))
  refine k1 ?_
  refine B5 rfl (fun ht=>?_) (fun ht=>?_)
  ·cases ht
  ·refine k5 (k1 (k2 ?_))
   refine A4 (A2 (D4 Z Z Z) Z (F3 (B9 TySz.out Z Z Z Z Z Z) (A2 (A5 Z Z) Z (A6 ?_))))
   refine k1 (k10 ?_)
   exact L1 (retsC2 rfl rfl rfl rfl rfl) (by repeat (first | exact E4 | refine E1 rfl ?_ | refine F1 _ ?_)) (ObIn.spec (ob':=[(702,_),(703,_)]) ⟨rfl,rfl,trivial⟩) ⟨rfl,rfl⟩
def B46 (on nn:Str) (raw:List Int) (c:Int):List PatchHunk:=(R6 on nn (Z0 raw) (u0 raw) c false).1.Hunks
theorem F95 {on nn:Str} (hn:G7 on=true) (hn':G7 nn=true) (raw:List Int) {c:Int} (hc:0≤c∧c≤1048576):R6 on nn (Z0 raw) (u0 raw) c false=(⟨on,nn,B46 on nn raw c⟩,0)∧H1 ⟨on,nn,B46 on nn raw c⟩=0∧szP (B46 on nn raw c)≤65536:=by
 have hal:=C13 raw
 have hbl:=D85 raw
 obtain ⟨f1,h1⟩:=P5 (Z0 raw)
 obtain ⟨f2,h2⟩:=P5 (u0 raw)
 obtain ⟨hf,_⟩:=s5 (B7 (Z0 raw)) (B7 (u0 raw)) false (by omega) (by omega)
 have hm:=D98 on nn (Z0 raw) (u0 raw) _ c hn hn' (by omega) (by omega) (by omega) hf
 have hz:=hf.size hc.1 (m9 (Z0 raw)).1 (m9 (u0 raw)).1
 have e:R6 on nn (Z0 raw) (u0 raw) c false=(⟨on,nn,F9 (l4 (B7 (Z0 raw)) (B7 (u0 raw)) false) (B7 (Z0 raw)) (B7 (u0 raw)) c⟩,0):=by
  unfold R6
  rw [if_neg (by rw [hn,hn'];simp),if_neg (by omega)]
 have e2:B46 on nn raw c=F9 (l4 (B7 (Z0 raw)) (B7 (u0 raw)) false) (B7 (Z0 raw)) (B7 (u0 raw)) c:=by unfold B46;rw [e]
 rw [e2]
 exact ⟨e,hm.chk,by omega⟩
theorem C39:∀(hs:List PatchHunk) (i j:Int),X3 i j hs=true→∀x∈hs,0 < x.Lines.length
 | [],_,_,_,_,hm=>by cases hm
 | x::r,i,j,hg,y,hm=>by
  simp only [X3,G80,decide_eq_true_eq] at hg
  obtain ⟨_,h1,_,h3⟩:=hg
  rcases List.mem_cons.1 hm with rfl | hm
  ·refine List.length_pos_iff.2 fun e=>h1 ?_
   unfold R4
   rw [e]
   exact .inl (.inl (.inl (.inl (.inl rfl))))
  ·exact C39 r _ _ h3 y hm
theorem F28 {p:Patch} (h:H1 p=0):∀x∈p.Hunks,0 < x.Lines.length∧(0≤x.Old∧x.Old≤4096)∧(0≤x.New∧x.New≤4096):=by
 have hg:=check12_good (p:=p) (fun e=>e h)
 intro x hx
 have hr:=j6 hg x hx
 refine ⟨?_,by omega,by omega⟩
 unfold T9 at hg
 rw [G80] at hg
 exact C39 _ _ _ hg.1 x hx
theorem E77 {hs:List PatchHunk} {r:Nat} {h:PatchHunk} (hv:hs[r]?=some h):(∀i (hi:i < hs.length),i≠r→∀j,j < 3→(K4 hs r)[i*3+j]?=some (.p (phunkC hs[i] j)))∧∀j,j < 3→(K4 hs r)[r*3+j]?=([.p (.v (.int .i64 h.Old)),.p (.v (.int .i64 h.New)),.mut 703]:List TC)[j]?:=by
 have hr:r < hs.length:=(List.getElem?_eq_some_iff.1 hv).1
 refine ⟨fun i hi hir j hj=>?_,fun j hj=>?_⟩
 ·unfold K4
  rw [List.getElem?_set_ne (by omega)]
  exact c7 (c:=phunkC) hs i j _ (G82 hi) hj
 ·have hg:=fun (j:Nat) (hj:j < 3)=>c7 (c:=phunkC) hs r j h hv hj
  unfold K4
  match j,hj with
  | 0,_=>rw [List.getElem?_set_ne (by omega)];exact hg 0 (by decide)
  | 1,_=>rw [List.getElem?_set_ne (by omega)];exact hg 1 (by decide)
  | 2,_=>rw [H11 (by rw [I0];omega)];rfl
theorem F96 {hs:List PatchHunk} {r:Nat} {h:PatchHunk} (hv:hs[r]?=some h):hunkLs hs r=h.Lines:=by unfold hunkLs;rw [hv];rfl
theorem G35 {rs:List S1} {e e2:TypeId} {n r:Nat} {hs:List PatchHunk} {ls:List PatchLine} {fr:Fr} {ob:Obs} (hrs:(rs.flatMap S1.refs).all (fun k=>Nat.beq k 702)=true)
  (h2:((C97 fr++B42 ob).all (fun k=>!(Nat.beq 702 k)&&!(Nat.beq 703 k))&&ob.all (fun p=>!(Nat.beq 702 p.1)&&!(Nat.beq 703 p.1)))=true) :
  F61 rs [(702,.growT e n 3 (K4 hs r)),(703,.grow e2 PatchLine 2 plineC ls)] fr ob=true:=by
 have hg:∀k,(C9 [(702,Ob.growT e n 3 (K4 hs r)),(703,.grow e2 PatchLine 2 plineC ls)] k).isSome=(Nat.beq 702 k||Nat.beq 703 k):=by
  intro k;simp only [C9];cases Nat.beq 702 k<;>cases Nat.beq 703 k<;>rfl
 have hg2:∀k,(C9 [(702,Ob.growT e n 3 (K4 hs r)),(703,.grow e2 PatchLine 2 plineC ls)] k).isNone=(!(Nat.beq 702 k)&&!(Nat.beq 703 k)):=by
  intro k;simp only [C9];cases Nat.beq 702 k<;>cases Nat.beq 703 k<;>rfl
 unfold F61
 simp only [hg,hg2]
 rw [G80] at h2
 rw [G80,G80]
 refine ⟨⟨?_,h2.1⟩,h2.2⟩
 rw [List.all_append,G80]
 refine ⟨List.all_eq_true.2 fun k hk=>?_,List.all_eq_true.2 fun k hk=>?_⟩
 ·have e:=Nat.eq_of_beq_eq_true (List.all_eq_true.1 hrs k hk)
  subst e;rfl
 ·have hk:k∈(K4 hs r).flatMap TC.refs:=by simpa [B42,Ob.refs] using hk
  obtain ⟨t,ht,hkt⟩:=List.mem_flatMap.1 hk
  rcases A54 t ht with ⟨z,rfl⟩ | rfl
  ·cases hkt
  ·have:k=703:=by simpa [TC.refs] using hkt
   subst this;rfl
set_option maxHeartbeats 1000000
abbrev tI (i:Int):S1:=.one (.p (.v (.int .i64 i)))
abbrev tIs (l:List Int):S1:=.one (.p (.list Int 1 I8 l))
abbrev tB (b:Bool):S1:=.one (.p (.v (.bool b)))
abbrev mvO (l:List Change) (a b:List Int):Obs:=[(700,.box [.mut 701,.p (.list Int 1 I8 a),.p (.list Int 1 I8 b)]),(701,.grow 146 Change 4 changeC l)]
def D06 (c:Change) (a b:List Int):List S1:=if c.NewLen=0 then [tIs a,tI c.Old,tI c.OldLen,tB true] else if c.OldLen=0 then [tIs b,tI c.New,tI c.NewLen,tB true] else [.one (.p (.v (.slice none 0 0))),tI 0,tI 0,tB false]
theorem D07 {gf:Fr} (l:List Change) (a b:List Int) (k:Nat) (c:Change) (hv:l[k]?=some c) :
  AL.Met Tryz.prog 239 [.one (.ref 700 0),tI k] gf (mvO l a b) [708] (fun rs ob'=>rs=D06 c a b∧ob'=mvO l a b):=by
 have hk:=(List.getElem?_eq_some_iff.1 hv).1
 refine AL.Met.intro Tryz.func239 (by decide) Z Z Z ?_
 refine k2 ?_
 refine A4 (A2 (A5 Z Z) Z (A2 (A5 Z Z) Z (A2 (A5 Z Z) Z (A2 (A5 Z Z) Z (A6 ?_)))))
 refine k1 (k2 ?_)
 refine A4 (A2 (A3 Z Z) Z (A2 (D3 Z) Z (A2 (A8 Z) Z (A2 (A9 Z Z Z) Z (A2 (A3 Z Z) Z (A2 (H4 Z Z Z (by omega) (by omega)) Z (A2 (D74 Z Z hv Z) Z (D1 (F48 708 Z (by decide)) Z (F3 (B9 TySz.out Z Z Z Z Z Z) (A6 ?_))))))))))
 refine k1 (k2 (k3 (k2 ?_)))
 refine A4 (A2 (A8 Z) Z (A2 (A9 Z Z Z) Z (A2 (I2 Z Z) Z (A2 (A5 Z Z) Z (A6 ?_)))))
 refine k1 ?_
 refine B5 rfl (fun ht=>?_) (fun ht=>?_)
 ·have h1:=A0 ht
  refine k2 ?_
  refine C5 (by kernel_rfl) (by kernel_rfl) (A7 (A3 Z Z) Z Z (A7 (D3 Z) Z Z (A7 (A8 Z) Z Z (A7 (A9 Z Z Z) Z Z (A7 (A8 Z) Z Z (A7 (A9 Z Z Z) Z Z (A7 (A8 Z) Z Z (A7 (A9 Z Z Z) Z Z (A7 (A5 Z Z) Z Z (A7 (A5 Z Z) Z Z (A7 (A5 Z Z) Z Z (A7 (A5 Z Z) Z Z (F4 ?_)))))))))))))
  refine k1 (k10 (k12 (k11 ?_)))
  exact L1 (rets4 rfl rfl rfl rfl rfl) (by repeat (first | exact E4 | refine E1 rfl ?_ | refine F1 _ ?_)) (ObIn.spec (ob':=mvO l a b) ⟨rfl,rfl,trivial⟩) ⟨by unfold D06;rw [if_pos h1];rfl,rfl⟩
 ·have h1:=A1 ht
  refine k2 ?_
  refine A4 (A2 (A8 Z) Z (A2 (A9 Z Z Z) Z (A2 (I2 Z Z) Z (A2 (A5 Z Z) Z (A6 ?_)))))
  refine k1 ?_
  refine B5 rfl (fun ht=>?_) (fun ht=>?_)
  ·have h2:=A0 ht
   refine k2 ?_
   refine C5 (by kernel_rfl) (by kernel_rfl) (A7 (A3 Z Z) Z Z (A7 (D3 Z) Z Z (A7 (A8 Z) Z Z (A7 (A9 Z Z Z) Z Z (A7 (A8 Z) Z Z (A7 (A9 Z Z Z) Z Z (A7 (A8 Z) Z Z (A7 (A9 Z Z Z) Z Z (A7 (A5 Z Z) Z Z (A7 (A5 Z Z) Z Z (A7 (A5 Z Z) Z Z (A7 (A5 Z Z) Z Z (F4 ?_)))))))))))))
   refine k1 (k10 (k12 (k11 ?_)))
   exact L1 (rets4 rfl rfl rfl rfl rfl) (by repeat (first | exact E4 | refine E1 rfl ?_ | refine F1 _ ?_)) (ObIn.spec (ob':=mvO l a b) ⟨rfl,rfl,trivial⟩) ⟨by unfold D06;rw [if_neg h1,if_pos h2];rfl,rfl⟩
  ·have h2:=A1 ht
   refine k5 (k2 ?_)
   refine A4 (A2 (A5 Z Z) Z (A2 (A5 Z Z) Z (A2 (A5 Z Z) Z (A2 (A5 Z Z) Z (A6 ?_)))))
   refine k1 (k10 ?_)
   exact L1 (rets4 rfl rfl rfl rfl rfl) (by repeat (first | exact E4 | refine E1 rfl ?_ | refine F1 _ ?_)) (ObIn.spec (ob':=mvO l a b) ⟨rfl,rfl,trivial⟩) ⟨by unfold D06;rw [if_neg h1,if_neg h2],rfl⟩
theorem F66 {gf:Fr} (l:List Change) (a b:List Int) (k:Nat) (c:Change) (hv:l[k]?=some c) (h1:0≤c.Old∧c.Old≤4096) (h2:0≤c.OldLen∧c.OldLen≤4096) :
  AL.Met Tryz.prog 240 [.one (.ref 700 0),tI k] gf (mvO l a b) [] (fun rs ob'=>rs=[tI (c.Old+c.OldLen)]∧ob'=mvO l a b):=by
 have hk:=(List.getElem?_eq_some_iff.1 hv).1
 refine AL.Met.intro Tryz.func240 (by decide) Z Z Z ?_
 refine k2 ?_
 refine A4 (A2 (A5 Z Z) Z (A6 ?_))
 refine k1 (k2 ?_)
 refine C5 (by kernel_rfl) (by kernel_rfl) (A7 (A3 Z Z) Z Z (A7 (D3 Z) Z Z (A7 (A8 Z) Z Z (A7 (A9 Z Z Z) Z Z (A7 (A3 Z Z) Z Z (A7 (H4 Z Z Z (by omega) (by omega)) Z Z (A7 (E6 Z) Z Z (A7 (Y9 Z Z hv Z) Z Z (A7 (A3 Z Z) Z Z (A7 (D3 Z) Z Z (A7 (A8 Z) Z Z (A7 (A9 Z Z Z) Z Z (A7 (A3 Z Z) Z Z (A7 (H4 Z Z Z (by omega) (by omega)) Z Z (A7 (E6 Z) Z Z (A7 (Y9 Z Z hv Z) Z Z (A7 (C0 Z Z (by omega)) Z Z (A7 (A5 Z Z) Z Z (F4 ?_)))))))))))))))))))
 refine k1 (k10 ?_)
 exact L1 (Y7 rfl rfl) (by repeat (first | exact E4 | refine E1 rfl ?_ | refine F1 _ ?_)) (ObIn.spec (ob':=mvO l a b) ⟨rfl,rfl,trivial⟩) ⟨rfl,rfl⟩
theorem F97 {gf:Fr} (l:List Change) (a b:List Int) (k:Nat) (hk:k < l.length) (hl:l.length≤32768) (ha:a.length≤4096) (hb:b.length≤4096) (hsc:I4 0 0 0 l a.length b.length=true) :
  AL.Met Tryz.prog 193 [.one (.ref 700 0),tI k] gf (mvO l a b) [708] (fun rs ob'=>rs=[tB (N0 l a b k)]∧ob'=mvO (if N0 l a b k=true then M9 l k else l) a b):=by
 have hok:=d7 _ _ _ _ _ _ hsc
 obtain ⟨c,hc⟩:∃c,c=cAt l k:=⟨_,rfl⟩
 have hv:l[k]?=some c:=by rw [hc];exact S8 hk
 have hg:=hok.get k hk
 rw [←hc] at hg
 obtain ⟨c1,c2,c3,c4,c5,c6⟩:=hg
 unfold F7 at c1 c2 c3 c4
 have hnx:k+1 < l.length→l[k+1]?=some (cAt l (k+1))∧0≤(cAt l (k+1)).Old∧(cAt l (k+1)).Old≤a.length:=fun h=>by
  have:=hok.get (k+1) h
  unfold F7 at this
  exact ⟨S8 h,this.1.1,by omega⟩
 have hnx':k+1 < l.length→l[((k:Int)+1).toNat]?=some (cAt l (k+1)):=fun h=>by
  rw [show ((k:Int)+1).toNat=k+1 by omega];exact S8 h
 obtain ⟨z,hz⟩:∃z:Int,z=if k+1 < l.length then (cAt l (k+1)).Old - (c.Old+c.OldLen) - 1 else a.length - (c.Old+c.OldLen):=⟨_,rfl⟩
 have hge:=D16 _ _ _ 0 0 0 hsc
 have hcase:(∃(t:List Int) (f n:Int),D06 c a b=[tIs t,tI f,tI n,tB true]∧N0 l a b k=decide (1≤z∧atI t f=atI t (f+n))∧t.length≤4096∧0≤f∧0≤n∧(1≤z→f+n < t.length))∨(D06 c a b=[.one (.p (.v (.slice none 0 0))),tI 0,tI 0,tB false]∧N0 l a b k=false):=by
  have hzr:(1≤z↔(k+1=l.length∨c.Old+c.OldLen+1 < (cAt l (k+1)).Old)∧c.Old+c.OldLen < a.length)∧(1≤z↔(k+1=l.length∨c.Old+c.OldLen+1 < (cAt l (k+1)).Old)∧c.New+c.NewLen < b.length):=by
   by_cases q:k+1 < l.length
   ·rw [if_pos q] at hz
    have g1:=hnx q
    have g2:=hok.get (k+1) q
    have g3:=m8 _ _ _ 0 0 0 hsc (k+1) q
    rw [A01,A02,←hc] at g3
    unfold F7 Q6 D15 at g3
    unfold F7 at g2
    omega
   ·rw [if_neg q] at hz
    have q2:l.length=k+1:=by omega
    rw [q2,A01,A02,←hc] at hge
    unfold Q6 D15 at hge
    omega
  unfold D06 N0
  rw [←hc]
  by_cases h1:c.NewLen=0
  ·rw [if_pos h1,if_pos h1]
   refine .inl ⟨_,_,_,rfl,?_,ha,c1.1,c2.1,fun h=>(hzr.1.1 h).2⟩
   have e:A74 l k a c.Old c.OldLen↔1≤z∧atI a c.Old=atI a (c.Old+c.OldLen):=by
    unfold A74
    rw [←hc,hzr.1]
    constructor
    ·rintro ⟨⟨q1,q2⟩,q3⟩;exact ⟨⟨q3,q1⟩,q2⟩
    ·rintro ⟨⟨q3,q1⟩,q2⟩;exact ⟨⟨q1,q2⟩,q3⟩
   simp only [e]
  ·rw [if_neg h1,if_neg h1]
   by_cases h2:c.OldLen=0
   ·rw [if_pos h2,if_pos h2]
    refine .inl ⟨_,_,_,rfl,?_,hb,c3.1,c4.1,fun h=>(hzr.2.1 h).2⟩
    have e:A74 l k b c.New c.NewLen↔1≤z∧atI b c.New=atI b (c.New+c.NewLen):=by
     unfold A74
     rw [←hc,hzr.2]
     constructor
     ·rintro ⟨⟨q1,q2⟩,q3⟩;exact ⟨⟨q3,q1⟩,q2⟩
     ·rintro ⟨⟨q3,q1⟩,q2⟩;exact ⟨⟨q1,q2⟩,q3⟩
    simp only [e]
   ·rw [if_neg h2,if_neg h2];exact .inr ⟨rfl,rfl⟩
 rcases hcase with ⟨t,f,n,hr,hcd,ht4,f0,n0,fn⟩ | ⟨hr,hcd⟩
 ·have hrm:=fun gf=>D07 (gf:=gf) l a b k c hv
  rw [hr] at hrm
  have hat:∀i:Int,0≤i→i < t.length→t[i.toNat]?=some (atI t i):=fun i h0 h1=>by
   unfold atI;rw [G85,G82 (show i.toNat < t.length by omega)];rfl
  refine AL.Met.introH Tryz.func193 (by decide) rfl rfl rfl (fun hH=>?_)
  refine k2 ?_
  refine A4 (A2 (A5 Z Z) Z (A6 ?_))
  refine k1 (k2 ?_)
  refine A4 (A2 (A3 Z Z) Z (A2 (A3 Z Z) Z (Y8 (hrm _) Z Z Z ?_)));rintro _ _ ⟨rfl,rfl⟩;refine A2 (A3 Z Z) Z (A2 (C6 Z Z) Z (A2 (C6 Z Z) Z (A2 (C6 Z Z) Z (A2 (C6 Z Z) Z (A2 (A5 Z Z) Z (A2 (A5 Z Z) Z (A2 (A5 Z Z) Z (A2 (A5 Z Z) Z (A6 ?_)))))))))
  refine k1 (k2 (k2 ?_))
  refine A4 (A2 (A3 Z Z) Z (A2 (J8 Z) Z (A6 ?_)))
  refine k1 ?_
  refine B5 rfl (fun ht=>?_) (fun ht=>?_)
  ·cases ht
  refine k5 (k1 (k2 ?_))
  refine O5 ([(0,.s (.one (.ref 700 0))),(1,C1 k),(5,C4 Int 1 I8 t),(6,C1 f),(7,C1 n)]++Fr.forget 708 gf) (mvO l a b) (G49 ⟨le1 rfl,le1 rfl,le1 rfl,le1 rfl,le1 rfl,trivial⟩ (Q1 hH) (by repeat (first | exact E4 | refine tail_drop rfl ?_ | refine E1 rfl ?_ | refine K2 _ ?_)) (ObIn.spec (ob':=mvO l a b) ⟨rfl,rfl,trivial⟩)) ?_
  refine u6 [7] [[],[7]] [(7,([],[]))] [(0,[]),(1,[]),(2,[]),(3,[]),(4,[]),(5,[]),(6,[]),(7,[]),(8,[7]),(9,[7])] [(0,[7]),(1,[7]),(2,[7]),(3,[7]),(4,[7])] (by kernel_rfl) (by kernel_rfl) (L7 Z Z (by kernel_rfl) Z Z (A3 Z Z) (L7 Z Z (by kernel_rfl) Z Z (D3 Z) (L7 Z Z (by kernel_rfl) Z Z (A8 Z) (L7 Z Z (by kernel_rfl) Z Z (A9 Z Z Z) (L7 Z Z (by kernel_rfl) Z Z (E0 Z (.pure _ _ _ _)) (L7 Z Z (by kernel_rfl) Z Z (A3 Z Z) (L7 Z Z (by kernel_rfl) Z Z (A3 Z Z) (C31 Z Z (by kernel_rfl) Z Z (F59 (fun gf=>F66 l a b k c hv c1 c2) Z Z) Z (L7 Z Z (by kernel_rfl) Z Z (H8 Z Z (by omega)) (L7 Z Z (by kernel_rfl) Z Z (A5 Z Z) ?_))))))))));refine F57 (by kernel_rfl) rfl ?_ ?_
  ·refine S0 Z Z (by kernel_rfl) Z Z (A3 Z Z) (S0 Z Z (by kernel_rfl) Z Z (D3 Z) (S0 Z Z (by kernel_rfl) Z Z (A8 Z) (S0 Z Z (by kernel_rfl) Z Z (A9 Z Z Z) (S0 Z Z (by kernel_rfl) Z Z (E0 Z (.pure _ _ _ _)) ?_))));exact F58
  refine I1 ?_
  refine O5 ([(0,.s (.one (.ref 700 0))),(1,C1 k),(5,C4 Int 1 I8 t),(6,C1 f),(7,C1 n),(9,C1 ((a.length:Int) - (c.Old+c.OldLen)))]++Fr.forget 708 gf) (mvO l a b) (G49 ⟨le1 rfl,le1 rfl,le1 rfl,le1 rfl,le1 rfl,le1 rfl,trivial⟩ (Q1 hH) (by repeat (first | exact E4 | refine tail_drop rfl ?_ | refine E1 rfl ?_ | refine K2 _ ?_)) (ObIn.spec (ob':=mvO l a b) ⟨rfl,rfl,trivial⟩)) ?_
  refine j1 ([(0,.s (.one (.ref 700 0))),(1,C1 k),(5,C4 Int 1 I8 t),(6,C1 f),(7,C1 n),(9,C1 z)]++Fr.forget 708 gf) (mvO l a b) ?_ ?_
  ·refine k2 ?_
   refine A4 (A2 (A3 Z Z) Z (A2 (C0 Z Z (by omega)) Z (A2 (A3 Z Z) Z (A2 (D3 Z) Z (A2 (A8 Z) Z (A2 (A9 Z Z Z) Z (A2 (E08 Z Z) Z (A2 (E9 Z Z) Z (A6 ?_)))))))))
   refine k1 ?_
   refine B5 rfl (fun ht=>?_) (fun ht=>?_)
   ·have h1:k+1 < l.length:=by have:=A0 ht;omega
    have hn1:=hnx h1
    rw [if_pos h1] at hz
    skip
    refine u6 [11] [[],[11]] [(11,([],[]))] [(0,[]),(1,[]),(2,[]),(3,[]),(4,[]),(5,[]),(6,[]),(7,[]),(8,[]),(9,[]),(10,[]),(11,[]),(12,[11]),(13,[11]),(14,[11])] [(0,[11]),(1,[11]),(2,[11]),(3,[11]),(4,[11]),(5,[11]),(6,[11]),(7,[11]),(8,[11])] (by kernel_rfl) (by kernel_rfl) (L7 Z Z (by kernel_rfl) Z Z (A3 Z Z) (L7 Z Z (by kernel_rfl) Z Z (D3 Z) (L7 Z Z (by kernel_rfl) Z Z (A8 Z) (L7 Z Z (by kernel_rfl) Z Z (A9 Z Z Z) (L7 Z Z (by kernel_rfl) Z Z (A3 Z Z) (L7 Z Z (by kernel_rfl) Z Z (C0 Z Z (by omega)) (L7 Z Z (by kernel_rfl) Z Z (H4 Z Z Z (by omega) (by omega)) (L7 Z Z (by kernel_rfl) Z Z (E6 Z) (L7 Z Z (by kernel_rfl) Z Z (Y9 Z Z (hnx' h1) Z) (L7 Z Z (by kernel_rfl) Z Z (A3 Z Z) (L7 Z Z (by kernel_rfl) Z Z (A3 Z Z) (C31 Z Z (by kernel_rfl) Z Z (F59 (fun gf=>F66 l a b k c hv c1 c2) Z Z) Z (L7 Z Z (by kernel_rfl) Z Z (H8 Z Z (by omega)) (L7 Z Z (by kernel_rfl) Z Z (H8 Z Z (by omega)) (L7 Z Z (by kernel_rfl) Z Z (A5 Z Z) ?_)))))))))))))));refine F57 (by kernel_rfl) rfl ?_ ?_
    ·refine S0 Z Z (by kernel_rfl) Z Z (A3 Z Z) (S0 Z Z (by kernel_rfl) Z Z (D3 Z) (S0 Z Z (by kernel_rfl) Z Z (A8 Z) (S0 Z Z (by kernel_rfl) Z Z (A9 Z Z Z) (S0 Z Z (by kernel_rfl) Z Z (A3 Z Z) (S0 Z Z (by kernel_rfl) Z Z (C0 Z Z (by omega)) (S0 Z Z (by kernel_rfl) Z Z (H4 Z Z Z (by omega) (by omega)) (S0 Z Z (by kernel_rfl) Z Z (E6 Z) (S0 Z Z (by kernel_rfl) Z Z (Y9 Z Z (hnx' h1) Z) ?_))))))));exact F58
    refine k1 ?_
    rw [hz]
    exact (G49 ⟨le1 rfl,le1 rfl,le1 rfl,le1 rfl,le1 rfl,le1 rfl,trivial⟩ (Q1 hH) (by repeat (first | exact E4 | refine tail_drop rfl ?_ | refine E1 rfl ?_ | refine K2 _ ?_)) (ObIn.spec (ob':=mvO l a b) ⟨rfl,rfl,trivial⟩))
   ·have h1:¬k+1 < l.length:=by have:=A1 ht;omega
    rw [if_neg h1] at hz
    refine k5 (k1 ?_)
    rw [hz]
    exact (G49 ⟨le1 rfl,le1 rfl,le1 rfl,le1 rfl,le1 rfl,le1 rfl,trivial⟩ (Q1 hH) (by repeat (first | exact E4 | refine tail_drop rfl ?_ | refine E1 rfl ?_ | refine K2 _ ?_)) (ObIn.spec (ob':=mvO l a b) ⟨rfl,rfl,trivial⟩))
  ·refine k2 (k2 ?_)
   refine C5 (by kernel_rfl) (by kernel_rfl) (A7 (A3 Z Z) Z Z (A7 (E9 Z Z) Z Z (A7 (A3 Z Z) Z Z (B4 Z Z (fun hg=>by rw [hg];exact A3 Z Z) Z Z ?_))));refine B4 Z Z (fun hg=>by rw [hg];exact A3 Z Z) Z Z ?_;refine B4 Z Z (fun hg=>by have hq:=hg;(try simp at hq);rw [hg];exact B1 Z (.pure _ _ _ _) Z (by omega) (hat f f0 (by have:=fn (by omega);omega))) Z Z ?_;refine B4 Z Z (fun hg=>by rw [hg];exact B3 Z Z) Z Z ?_;refine B4 Z Z (fun hg=>by rw [hg];exact A3 Z Z) Z Z ?_;refine B4 Z Z (fun hg=>by rw [hg];exact A3 Z Z) Z Z ?_;refine B4 Z Z (fun hg=>by rw [hg];exact A3 Z Z) Z Z ?_;refine B4 Z Z (fun hg=>by have hq:=hg;(try simp at hq);rw [hg];exact C0 Z Z (by omega)) Z Z ?_;refine B4 Z Z (fun hg=>by have hq:=hg;(try simp at hq);rw [hg];exact B1 Z (.pure _ _ _ _) Z (by omega) (hat (f+n) (by omega) (by have:=fn (by omega);omega))) Z Z ?_;refine B4 Z Z (fun hg=>by rw [hg];exact B3 Z Z) Z Z ?_;refine B4 Z Z (fun hg=>by rw [hg];exact J0 Z Z) Z Z ?_;refine A7 (B2 Z (fun h=>by first | rfl | (rw [h];rfl)) (fun h=>by first | rfl | (rw [h];rfl))) Z Z ?_;refine F4 ?_
   refine k1 ?_
   refine B5 rfl (fun ht=>?_) (fun ht=>?_)
   ·have h1:¬(1≤z∧atI t f=atI t (f+n)):=by
     rintro ⟨q1,q2⟩
     simp [q2] at ht
     omega
    rw [hcd,decide_eq_false h1]
    refine k2 ?_
    refine A4 (A2 (A5 Z Z) Z (A6 ?_))
    refine k1 (k10 (k11 ?_))
    exact L1 (Y7 rfl rfl) (by repeat (first | exact E4 | refine E1 rfl ?_ | refine F1 _ ?_)) (ObIn.spec (ob':=mvO l a b) ⟨rfl,rfl,trivial⟩) ⟨rfl,rfl⟩
   ·have h1:1≤z:=Classical.byContradiction fun q=>by simp [show z < 1 by omega] at ht
    have h2:atI t f=atI t (f+n):=Classical.byContradiction fun q=>by simp [q] at ht
    rw [hcd,decide_eq_true (show 1≤z∧atI t f=atI t (f+n) from ⟨h1,h2⟩)]
    rw [if_pos rfl]
    obtain ⟨c',hc'⟩:∃c':Change,c'={ c with Old:=c.Old+1 }:=⟨_,rfl⟩
    have hv':(l.set k c')[k]?=some c':=H11 hk
    have hfin:(l.set k c').set k ({ c' with New:=c'.New+1 }:Change)=M9 l k:=by
     rw [List.set_set];unfold M9;rw [←hc,hc'];rfl
    have hl':(l.set k c').length=l.length:=by simp
    refine k5 (k1 (k2 ?_))
    refine A4 (A2 (A3 Z Z) Z (A2 (D3 Z) Z (A2 (A8 Z) Z (A2 (A9 Z Z Z) Z (A2 (A3 Z Z) Z (A2 (H4 Z Z Z (by omega) (by omega)) Z (A2 (E6 Z) Z (A2 (Y9 Z Z hv Z) Z (A2 (C0 Z Z (by omega)) Z (A2 (H4 Z Z Z (by omega) (by omega)) Z (A2 (E6 Z) Z (F3 (V6 (({ c with Old:=c.Old+1 }:Change)) TySz.out Z Z hv Z Z Z Z (fun _ _ _ h=>W8 h) (by intro j h1 h2;rcases j with _ | _ | _ | _ | _ | _ | _ | j<;>first | rfl | omega)) ?_))))))))))));refine A6 ?_
    rw [H01,←hc']
    refine k1 (k2 ?_)
    refine A4 (A2 (A3 Z Z) Z (A2 (D3 Z) Z (A2 (A8 Z) Z (A2 (A9 Z Z Z) Z (A2 (A3 Z Z) Z (A2 (H4 Z Z Z (by omega) (by (rw [hl'];omega))) Z ?_))))));refine A2 (E6 Z) Z (A2 (Y9 Z Z hv' Z) Z (A2 (C0 Z Z (by (rw [hc'];dsimp only;omega))) Z ?_));refine A2 (H4 Z Z Z (by omega) (by (rw [hl'];omega))) Z ?_;refine A2 (E6 Z) Z (F3 (V6 (({ c' with New:=c'.New+1 }:Change)) TySz.out Z Z hv' Z Z Z Z (fun _ _ _ h=>W8 h) (by intro j h1 h2;rcases j with _ | _ | _ | _ | _ | _ | _ | j<;>first | rfl | omega)) ?_);refine A6 ?_
    rw [H01,hfin]
    refine k1 (k2 ?_)
    refine A4 (A2 (A5 Z Z) Z (A6 ?_))
    refine k1 (k10 ?_)
    exact L1 (Y7 rfl rfl) (by repeat (first | exact E4 | refine E1 rfl ?_ | refine F1 _ ?_)) (ObIn.spec (ob':=mvO (M9 l k) a b) ⟨rfl,rfl,trivial⟩) ⟨rfl,rfl⟩
 ·have hrm:=fun gf=>D07 (gf:=gf) l a b k c hv
  rw [hr] at hrm
  rw [hcd]
  refine AL.Met.intro Tryz.func193 (by decide) Z Z Z ?_
  refine k2 ?_
  refine A4 (A2 (A5 Z Z) Z (A6 ?_))
  refine k1 (k2 ?_)
  refine A4 (A2 (A3 Z Z) Z (A2 (A3 Z Z) Z (Y8 (hrm _) Z Z Z ?_)));rintro _ _ ⟨rfl,rfl⟩;refine A2 (A3 Z Z) Z (A2 (C6 Z Z) Z (A2 (C6 Z Z) Z (A2 (C6 Z Z) Z (A2 (C6 Z Z) Z (A2 (A5 Z Z) Z (A2 (A5 Z Z) Z (A2 (A5 Z Z) Z (A2 (A5 Z Z) Z (A6 ?_)))))))))
  refine k1 (k2 (k2 ?_))
  refine A4 (A2 (A3 Z Z) Z (A2 (J8 Z) Z (A6 ?_)))
  refine k1 ?_
  refine B5 rfl (fun ht=>?_) (fun ht=>?_)
  ·refine k2 ?_
   refine A4 (A2 (A5 Z Z) Z (A6 ?_))
   refine k1 (k10 (k11 ?_))
   exact L1 (Y7 rfl rfl) (by repeat (first | exact E4 | refine E1 rfl ?_ | refine F1 _ ?_)) (ObIn.spec (ob':=mvO l a b) ⟨rfl,rfl,trivial⟩) ⟨rfl,rfl⟩
  ·cases ht
theorem F98 {gf:Fr} {x y:List Str} {a b:List Int} (ia:IdsOf x a) (ib:IdsOf y b) (l:List Change) (k:Nat) (hk:k < l.length) (hl:l.length≤32768) (h:ScFit x y l) :
  AL.Met Tryz.prog 192 [.one (.clo 193 [(700,0)] []),tI k] gf (mvO l a b) [708] (fun rs ob'=>(∃n:Int,rs=[tI n])∧ob'=mvO (P6 a b l k) a b):=by
 have hla:=ia.len
 have hlb:=ib.len
 have hxl:=h.lx
 have hyl:=h.ly
 refine AL.Met.introH Tryz.func192 (by decide) rfl rfl rfl (fun hH=>?_)
 refine k2 ?_
 refine A4 (A2 (A5 Z Z) Z (A6 ?_))
 refine k1 (k2 ?_)
 refine A4 (A2 (A5 Z Z) Z (A6 ?_))
 refine k1 (k2 (k3 ?_))
 refine J3 (G64 708 (l:=[(0,.s (.one (.clo 193 [(700,0)] []))),(1,C1 k),(5,C1 0)]) (L:=mvO l a b) ⟨le1 rfl,le1 rfl,le1 rfl,trivial⟩ hH (by repeat (first | exact E4 | refine E1 rfl ?_)) ⟨rfl,rfl,trivial⟩) ?_
 refine D9 (X:=Nat × List Change) (fun s=>([(0,.s (.one (.clo 193 [(700,0)] []))),(1,C1 k),(5,C1 s.1)]++Fr.forget 708 gf,mvO s.2 a b)) (fun s=>s.2.length=l.length∧ScFit x y s.2∧P6 a b s.2 k=P6 a b l k∧s.1+A04 s.2 a b k≤A04 l a b k) (fun s=>A04 s.2 a b k) (0,l) ⟨rfl,h,rfl,by dsimp only;omega⟩ (G49 ⟨le1 rfl,le1 rfl,le1 rfl,trivial⟩ (Q1 hH) (by repeat (first | exact E4 | refine E1 rfl ?_)) (ObIn.spec (ob':=mvO l a b) ⟨rfl,rfl,trivial⟩)) ?_
 rintro ⟨n,l2⟩ ⟨hl2,hf2,hs2,hn⟩
 dsimp only at hl2 hf2 hs2 hn ⊢
 have hsc:=hf2.sc
 rw [←hla,←hlb] at hsc
 have hml:A04 l a b k≤16384:=by
  have:=(d7 _ _ _ _ _ _ h.sc).get k hk
  unfold A04
  obtain ⟨⟨q1,_⟩,_,⟨q2,_⟩,_⟩:=this
  omega
 refine k2 (k2 ?_)
 refine A4 (A2 (A3 Z Z) Z (A2 (A3 Z Z) Z (C88 (F97 l2 a b k (by omega) (by omega) (by omega) (by omega) hsc) Z Z Z Z ?_)));rintro _ _ ⟨rfl,rfl⟩;refine A6 ?_
 refine k1 ?_
 refine B5 rfl (fun ht=>?_) (fun ht=>?_)
 ·have hm:=x2 ia ib hf2 (by omega) ht
  have hst:=B29 ia ib hf2 (by omega) ht
  rw [if_pos ht]
  refine k5 (k1 (k3 ?_))
  refine A4 (A2 (A3 Z Z) Z (A2 (C0 Z Z (by omega)) Z (A2 (A5 Z Z) Z (A6 ?_))))
  refine k4 (k1 ?_)
  refine ⟨(n+1,M9 l2 k),⟨by dsimp only;rw [L9];exact hl2,hf2.down ia ib (by omega) ht,by dsimp only;rw [←hst];exact hs2,by dsimp only;omega⟩,hm,?_⟩
  exact G49 ⟨le1 rfl,le1 rfl,le1 rfl,trivial⟩ (Q1 hH) (by repeat (first | exact E4 | refine tail_drop rfl ?_ | refine E1 rfl ?_ | refine K2 _ ?_)) (ObIn.spec (ob':=mvO (M9 l2 k) a b) ⟨rfl,rfl,trivial⟩)
 ·have hst:=B30 (a:=a) (b:=b) ht
  rw [hst] at hs2
  have hif:(if N0 l2 a b k=true then M9 l2 k else l2)=P6 a b l k:=by rw [←hs2,if_neg (by rw [ht];decide)]
  rw [hif]
  refine k6 (k2 ?_)
  refine A4 (A2 (A3 Z Z) Z (A2 (A5 Z Z) Z (A6 ?_)))
  refine k1 (k10 ?_)
  exact L1 (Y7 rfl rfl) (by repeat (first | exact E4 | refine E1 rfl ?_ | refine K2 _ ?_)) (ObIn.spec (ob':=mvO (P6 a b l k) a b) ⟨rfl,rfl,trivial⟩) ⟨⟨_,rfl⟩,rfl⟩
theorem F99 {gf:Fr} (l:List Change) (hl:l.length≤1073741824) :
  AL.Met Tryz.prog 238 [.one (.p (.list Change 4 changeC l))] gf [] [701] (fun rs ob'=>rs=[.one (.mut 701)]∧ob'=[(701,.grow 146 Change 4 changeC l)]):=by
 refine AL.Met.intro Tryz.func238 (by decide) Z Z Z ?_
 refine k2 ?_
 refine A4 (A2 (A5 Z Z) Z (A6 ?_))
 refine k1 (k2 (k2 ?_))
 refine A4 (A2 (A3 Z Z) Z ?_);(first | (refine D99 (D69 rfl (.pure _ _ _ _)) rfl ?_) | (refine D99 (D69 rfl (.buf _ _ _ _ _)) rfl ?_));rintro _ ⟨b1,rfl,hnil⟩;refine A6 ?_
 refine k1 ?_
 refine B5 rfl (fun ht=>?_) (fun ht=>?_)
 ·rw [hnil ht]
  refine k2 ?_
  refine A4 (D1 (G22 701 _ changeC Z Z) Z (A6 ?_))
  refine k1 (k10 (k11 ?_))
  exact L1 (Y7 rfl rfl) (by repeat (first | exact E4 | refine E1 rfl ?_ | refine F1 _ ?_)) (fun _ _ h=>h) ⟨rfl,rfl⟩
 ·refine k5 (k1 (k2 ?_))
  refine A4 (D1 (G23 701 _ changeC Z Z Z) Z (A2 (A3 Z Z) Z (D1 (x9 Z Z Z (.pure _ _ _ _) (by (simp;omega)) Z) Z (A2 (A5 Z Z) Z (A6 ?_)))))
  simp only [H10]
  refine k1 (k10 ?_)
  exact L1 (Y7 rfl rfl) (by (repeat refine E1 rfl ?_);refine K2 _ ?_;(repeat refine E1 rfl ?_);refine F1 _ ?_;(repeat (first | exact E4 | refine E1 rfl ?_))) (ObIn.spec (ob':=[(701,.grow 146 Change 4 changeC l)]) ⟨rfl,trivial⟩) ⟨rfl,rfl⟩
theorem G00 {gf:Fr} (l:List Change) (a b:List Int) (hl:l.length≤32768) (hc:P4 l a.length b.length=0) (hp:∀p∈N1 l a.length,E19 a b p) :
  AL.Met Tryz.prog 191 [.one (.p (.list Change 4 changeC l)),tIs a,tIs b] gf [] [701,700] (fun rs ob'=>rs=[.one (.ref 700 0),tI 0]∧ob'=mvO l a b):=by
 refine AL.Met.intro Tryz.func191 (by decide) Z Z Z ?_
 refine k2 ?_
 refine A4 (A2 (A5 Z Z) Z (A2 (A5 Z Z) Z (A6 ?_)))
 refine k1 (k2 (k2 ?_))
 refine A4 (A2 (A3 Z Z) Z (A2 (A3 Z Z) Z (A2 (A3 Z Z) Z (C8 (G34 l a b hl hc hp) Z Z Z ?_))));rintro _ rfl;refine A2 (J8 Z) Z (A6 ?_)
 refine k1 ?_
 refine B5 rfl (fun ht=>?_) (fun ht=>?_)
 ·cases ht
 refine k5 (k1 (k2 ?_))
 refine A4 (A2 (A3 Z Z) Z (Y8 (F99 l (by omega)) Z Z Z ?_));rintro _ _ ⟨rfl,rfl⟩;refine A2 (A3 Z Z) Z (A2 (A3 Z Z) Z (A2 (I6 Z) Z (D1 (e_box 700 Z Z Z (by decide)) Z (A2 (A5 Z Z) Z (A2 (A5 Z Z) Z (A6 ?_))))))
 refine k1 (k10 ?_)
 exact L1 (rets2 rfl rfl rfl) (by repeat (first | exact E4 | refine E1 rfl ?_ | refine F1 _ ?_)) (ObIn.spec (ob':=mvO l a b) ⟨rfl,rfl,trivial⟩) ⟨rfl,rfl⟩
theorem G36 (x y names:List Str) (l:List Change) (h:ScFit x y l) (hl:l.length≤32768) (hx:∀s∈x,s∈names) (hy:∀s∈y,s∈names) :
  FnOk Tryz.prog 131 [pChanges l,O1 (E2 names x),O1 (E2 names y)] (fun rs=>rs=[pChanges (A68 l (E2 names x) (E2 names y)),G2 0]):=by
 obtain ⟨a,ha⟩:∃a,a=E2 names x:=⟨_,rfl⟩
 obtain ⟨b,hb⟩:∃b,b=E2 names y:=⟨_,rfl⟩
 have hpp:=D87 (names:=names) h
 have ia:IdsOf x a:=by rw [ha];exact x3 hx
 have ib:IdsOf y b:=by rw [hb];exact x3 hy
 rw [←ha,←hb] at hpp ⊢
 have hla:=ia.len
 have hlb:=ib.len
 have hck:=h.check
 rw [←hla,←hlb] at hck
 refine FnOk.intro Tryz.func131 (by decide) Z Z Z Z ?_
 refine k2 ?_
 refine A4 (A2 (A5 Z Z) Z (A2 (A5 Z Z) Z (A6 ?_)))
 refine k1 (k2 ?_)
 refine A4 (A2 (A3 Z Z) Z (A2 (A3 Z Z) Z (A2 (A3 Z Z) Z (Y8 (G00 l a b hl hck hpp) Z Z Z ?_))));rintro _ _ ⟨rfl,rfl⟩;refine A2 (A3 Z Z) Z (A2 (C6 Z Z) Z (A2 (C6 Z Z) Z (A2 (A5 Z Z) Z (A2 (A5 Z Z) Z (A6 ?_)))))
 refine k1 (k2 (k2 ?_))
 refine A4 (A2 (A3 Z Z) Z (A2 (J0 Z Z) Z (A6 ?_)))
 refine k1 ?_
 refine B5 rfl (fun ht=>?_) (fun ht=>?_)
 ·cases ht
 refine k5 (k1 (k2 (k2 ?_)))
 refine A4 (A2 (A3 Z Z) Z (A2 (E0 Z (.pure _ _ _ _)) Z (A2 (H8 Z Z (by omega)) Z (A2 (A5 Z Z) Z (A6 ?_)))))
 refine k1 (k3 ?_)
 refine D9 (X:=Nat × List Change) (fun s=>([(8,.s (.one (.ref 700 0))),(10,C1 ((s.1:Int) - 1))],mvO s.2 a b)) (fun s=>s.1≤l.length∧s.2.length=l.length∧ScFit x y s.2∧j8 a b s.1 s.2=A68 l a b) (fun s=>s.1) (l.length,l) ⟨Nat.le_refl _,rfl,h,rfl⟩ (G48 ⟨le1 rfl,le1 rfl,trivial⟩ ⟨rfl,rfl,trivial⟩) ?_
 rintro ⟨n,l1⟩ ⟨hn,hl1,hf1,hs1⟩
 dsimp only at hn hl1 hf1 hs1 ⊢
 refine k2 (k2 ?_)
 refine A4 (A2 (A3 Z Z) Z (A2 (x5 Z Z) Z (A6 ?_)))
 refine k1 ?_
 refine B5 rfl (fun ht=>?_) (fun ht=>?_)
 ·have hn0:0 < n:=by have:=A0 ht;omega
  obtain ⟨k,rfl⟩:∃k,n=k+1:=⟨n - 1,by omega⟩
  rw [show ((k+1:Nat):Int) - 1=k by omega]
  have hfit:=B96 ia ib hf1 (k:=k) (by omega)
  have hlen:=D30 hfit.2
  refine k5 (k1 (k2 (k3 ?_)))
  refine A4 (A2 (A3 Z Z) Z (A2 (B38 Z Z) Z (A2 (A3 Z Z) Z (Y8 (F98 ia ib l1 k (by omega) (by omega) hf1) Z Z Z ?_))));rintro _ _ ⟨⟨cnt,rfl⟩,rfl⟩;refine A6 ?_
  refine k4 (k1 ?_)
  refine A4 (A2 (A3 Z Z) Z (A2 (H8 Z Z (by omega)) Z (A2 (A5 Z Z) Z (A6 ?_))))
  refine k1 ?_
  exact ⟨(k,P6 a b l1 k),⟨by dsimp only;omega,by dsimp only;omega,hfit.1,hs1⟩,by dsimp only;omega,G48 ⟨le1 rfl,le1 rfl,trivial⟩ ⟨rfl,rfl,trivial⟩⟩
 ·have hn0:n=0:=by have:=A1 ht;omega
  subst hn0
  have hs1:l1=A68 l a b:=hs1
  refine k6 (k2 ?_)
  refine A4 (A2 (A3 Z Z) Z (A2 (D3 Z) Z (A2 (A8 Z) Z (A2 (A9 Z Z Z) Z (A2 (A5 Z Z) Z (A2 (A5 Z Z) Z (A6 ?_)))))))
  refine k1 ?_
  refine J3 (G59 (t:=6) Z Z Z) ?_
  refine k10 ?_
  exact B6 (x7 rfl rfl rfl rfl rfl) (by rw [hs1])
set_option maxHeartbeats 1000000
theorem G01 (on nn a b:Str) (ctx:Int) (d:Bool) (ha:Few a) (hb:Few b) :
  FnOk Tryz.prog 75 [K6 on,K6 nn,K6 a,K6 b,G2 ctx,O4 d] (fun rs=>rs=[pPatch (R6 on nn a b ctx d).1,G2 (R6 on nn a b ctx d).2]):=by
 obtain ⟨x,hx⟩:∃x,x=B7 a:=⟨_,rfl⟩
 obtain ⟨y,hy⟩:∃y,y=B7 b:=⟨_,rfl⟩
 obtain ⟨f1,f2⟩:=P5 a
 obtain ⟨f3,f4⟩:=P5 b
 rw [←hx] at f1 f2
 rw [←hy] at f3 f4
 have hsa:=A18 ha
 have hsb:=A18 hb
 have ha0:=ha
 have hb0:=hb
 obtain ⟨ha,ha2⟩:=ha
 obtain ⟨hb,hb2⟩:=hb
 rw [←hx] at hsa ha2
 rw [←hy] at hsb hb2
 have hxm:∀s∈x,s∈C3 [x,y]:=fun s hs=>Q5 _ _ x (by simp) hs
 have hym:∀s∈y,s∈C3 [x,y]:=fun s hs=>Q5 _ _ y (by simp) hs
 have i1:(E2 (C3 [x,y]) x).length=x.length:=by simp [E2]
 have i2:(E2 (C3 [x,y]) y).length=y.length:=by simp [E2]
 have hs0:=A03 x y (by omega) (by omega)
 have hs0l:=v6 x y
 have hdf:=(s5 x y d (by omega) (by omega)).1
 have hdl:=A98 x y d (by omega) (by omega)
 obtain ⟨l,hl⟩:∃l,l=l4 x y d:=⟨_,rfl⟩
 rw [←hl] at hdf hdl
 have hmk:R6 on nn a b ctx d=if G7 on=false∨G7 nn=false then (X4,120) else if ctx < 0∨1048576 < ctx then (X4,3) else (⟨on,nn,F9 l x y ctx⟩,0):=by rw [hl,hx,hy];rfl
 refine FnOk.intro Tryz.func75 (by decide) Z Z Z Z ?_
 refine k2 ?_
 refine A4 (D1 (G5 12 Z) Z (A2 (A5 Z Z) Z (A6 ?_)))
 refine k1 (k2 (k2 ?_))
 refine A4 (A2 (A3 Z Z) Z (C8 (B07 on) Z Z Z ?_));rintro _ rfl;refine A2 (J8 Z) Z (A2 (A3 Z Z) Z (B0 Z Z Z Z (fun hg=>by rw [hg];exact A3 Z Z) ?_));refine B0 Z Z Z Z (fun hg=>by have hq:=hg;(try simp at hq);rw [hg];exact F5 (B07 nn) Z Z) ?_;refine B0 Z Z Z Z (fun hg=>by rw [hg];exact J8 Z) ?_;refine A2 (B2 Z (fun h=>by first | rfl | (rw [h];rfl)) (fun h=>by first | rfl | (rw [h];rfl))) Z ?_;refine A6 ?_
 refine k1 ?_
 refine B5 rfl (fun ht=>?_) (fun ht=>?_)
 ·simp only [B17,or_pick] at ht
  have h:=A0 ht
  refine k2 ?_
  refine A4 (A2 (I6 Z) Z (F3 (B9 TySz.out Z Z Z Z Z Z) (A2 (A5 Z Z) Z (A6 ?_))))
  refine k1 ?_
  refine J3 (G58 PatchHunk 3 phunkC 12 2 Z Z) ?_
  refine k10 (k11 ?_)
  exact B6 (rs:=[pPatch X4,G2 120]) (D63 rfl rfl rfl rfl rfl rfl rfl) (by rw [hmk,if_pos h])
 simp only [B17,or_pick] at ht
 have h:=A1 ht
 rw [if_neg h] at hmk
 have hn1:G7 on=true:=by cases q:G7 on<;>simp [q] at h ⊢
 have hn2:G7 nn=true:=by cases q:G7 nn<;>simp [q] at h ⊢
 refine k5 (k1 (k2 ?_))
 refine A4 (A2 (A3 Z Z) Z (C8 (D82 a (by omega)) Z Z Z ?_));rintro _ rfl;refine A2 (A3 Z Z) Z (A2 (C6 Z Z) Z (A2 (C6 Z Z) Z (A2 (A5 Z Z) Z (A2 (A5 Z Z) Z (A6 ?_)))))
 rw [hsa]
 refine k1 (k2 (k2 ?_))
 refine A4 (A2 (A3 Z Z) Z (A2 (J0 Z Z) Z (A6 ?_)))
 refine k1 ?_
 refine B5 rfl (fun ht=>?_) (fun ht=>?_)
 ·cases ht
 refine k5 (k1 (k2 ?_))
 refine A4 (A2 (A3 Z Z) Z (C8 (D82 b (by omega)) Z Z Z ?_));rintro _ rfl;refine A2 (A3 Z Z) Z (A2 (C6 Z Z) Z (A2 (C6 Z Z) Z (A2 (A5 Z Z) Z (A2 (A5 Z Z) Z (A6 ?_)))))
 rw [hsb]
 refine k1 (k2 (k2 ?_))
 refine A4 (A2 (A3 Z Z) Z (A2 (J0 Z Z) Z (A6 ?_)))
 refine k1 ?_
 refine B5 rfl (fun ht=>?_) (fun ht=>?_)
 ·cases ht
 refine k5 (k1 (k2 ?_))
 refine A4 (A2 (A3 Z Z) Z (A2 (A3 Z Z) Z (A2 (D8 (c:=strsC) (ys:=[x,y]) (E5 Z Z Z Z (E5 Z Z Z Z G8)) Z Z Z) Z (C8 (E18 [x,y] (by simp) (by simp;omega)) Z Z Z ?_))));rintro _ rfl;refine A2 (A5 Z Z) Z (A6 ?_)
 refine k1 (k2 ?_)
 refine C5 (by kernel_rfl) (by kernel_rfl) (A7 (A3 Z Z) Z Z (A7 (B1 Z (.pure _ _ _ _) Z (by omega) (show ([x,y].map (E2 (C3 [x,y])))[(0:Int).toNat]?=some (E2 (C3 [x,y]) x) from Z)) Z Z (A7 (B3 Z Z) Z Z (A7 (A3 Z Z) Z Z (A7 (B1 Z (.pure _ _ _ _) Z (by omega) (show ([x,y].map (E2 (C3 [x,y])))[(1:Int).toNat]?=some (E2 (C3 [x,y]) y) from Z)) Z Z (A7 (B3 Z Z) Z Z (A7 (F5 (F18 (E2 (C3 [x,y]) x) (E2 (C3 [x,y]) y) (by omega) (by omega)) Z Z) Z Z (A7 (A3 Z Z) Z Z (A7 (C6 Z Z) Z Z (A7 (C6 Z Z) Z Z (A7 (A5 Z Z) Z Z (A7 (A5 Z Z) Z Z (F4 ?_)))))))))))))
 rw [show y9 (E2 (C3 [x,y]) x) (E2 (C3 [x,y]) y)=F0 x y from rfl]
 refine I1 ?_
 refine O5 [(0,P7 on),(1,P7 nn),(4,C1 ctx),(5,K1 (.bool d)),(12,.s (.one (.ref 12 0))),(14,C4 Str 1 I3 x),(16,C4 Str 1 I3 y),(17,C4 (List Int) 1 intsC ([x,y].map (E2 (C3 [x,y])))),(18,C4 Change 4 changeC (F0 x y))] [(12,.box [.p (.v (.string ⟨#[]⟩)),.p (.v (.string ⟨#[]⟩)),.p (.v (.slice none 0 0))])] (G48 ⟨le1 rfl,le1 rfl,le1 rfl,le1 rfl,le1 rfl,le1 rfl,le1 rfl,le1 rfl,le1 rfl,trivial⟩ ⟨rfl,trivial⟩) ?_
 refine j1 [(0,P7 on),(1,P7 nn),(4,C1 ctx),(12,.s (.one (.ref 12 0))),(14,C4 Str 1 I3 x),(16,C4 Str 1 I3 y),(18,C4 Change 4 changeC l)] [(12,.box [.p (.v (.string ⟨#[]⟩)),.p (.v (.string ⟨#[]⟩)),.p (.v (.slice none 0 0))])] ?_ ?_
 ·refine k2 ?_
  refine A4 (A2 (A3 Z Z) Z (A6 ?_))
  refine k1 ?_
  refine B5 rfl (fun ht=>?_) (fun ht=>?_)
  ·have hd:d=true:=ht
   have hl2:l=A68 (F0 x y) (E2 (C3 [x,y]) x) (E2 (C3 [x,y]) y):=by rw [hl,hd];rfl
   skip
   refine C5 (by kernel_rfl) (by kernel_rfl) (A7 (A3 Z Z) Z Z (A7 (A3 Z Z) Z Z (A7 (B1 Z (.pure _ _ _ _) Z (by omega) (show ([x,y].map (E2 (C3 [x,y])))[(0:Int).toNat]?=some (E2 (C3 [x,y]) x) from Z)) Z Z (A7 (B3 Z Z) Z Z (A7 (A3 Z Z) Z Z (A7 (B1 Z (.pure _ _ _ _) Z (by omega) (show ([x,y].map (E2 (C3 [x,y])))[(1:Int).toNat]?=some (E2 (C3 [x,y]) y) from Z)) Z Z (A7 (B3 Z Z) Z Z (A7 (F5 (G36 x y (C3 [x,y]) (F0 x y) hs0 (by omega) hxm hym) Z Z) Z Z (A7 (A3 Z Z) Z Z (A7 (C6 Z Z) Z Z (A7 (C6 Z Z) Z Z (A7 (A5 Z Z) Z Z (F4 ?_)))))))))))))
   rw [←hl2]
   refine k1 ?_
   exact G48 ⟨le1 rfl,le1 rfl,le1 rfl,le1 rfl,le1 rfl,le1 rfl,le1 rfl,trivial⟩ ⟨rfl,trivial⟩
  ·have hd:d=false:=ht
   have hl2:l=F0 x y:=by rw [hl,hd];rfl
   rw [←hl2]
   refine k5 (k1 ?_)
   exact G48 ⟨le1 rfl,le1 rfl,le1 rfl,le1 rfl,le1 rfl,le1 rfl,le1 rfl,trivial⟩ ⟨rfl,trivial⟩
 refine k2 ?_
 refine A4 (A2 (A3 Z Z) Z (A2 (A3 Z Z) Z (A2 (E0 Z (.pure _ _ _ _)) Z (A2 (A3 Z Z) Z (A2 (E0 Z (.pure _ _ _ _)) Z (A2 (A3 Z Z) Z (C8 (F86 l x.length y.length ctx (by omega)) Z Z Z ?_)))))));rintro _ rfl;refine A2 (A3 Z Z) Z (A2 (C6 Z Z) Z (A2 (C6 Z Z) Z (A2 (A5 Z Z) Z (A2 (A5 Z Z) Z (A6 ?_)))))
 refine k1 (k2 (k2 ?_))
 by_cases hcx:ctx < 0∨1048576 < ctx
 ·rw [D97 hcx]
  refine A4 (A2 (A3 Z Z) Z (A2 (J0 Z Z) Z (A6 ?_)))
  refine k1 ?_
  refine B5 rfl (fun ht=>?_) (fun ht=>?_)
  ·refine k2 ?_
   refine A4 (A2 (I6 Z) Z (A2 (A3 Z Z) Z (F3 (B9 TySz.out Z Z Z Z Z Z) (A2 (A5 Z Z) Z (A6 ?_)))))
   refine k1 ?_
   refine J3 (G58 PatchHunk 3 phunkC 12 2 Z Z) ?_
   refine k10 (k11 ?_)
   exact B6 (rs:=[pPatch X4,G2 3]) (D63 rfl rfl rfl rfl rfl rfl rfl) (by rw [hmk,if_pos hcx])
  ·cases ht
 rw [C23 hdf hcx]
 rw [if_neg hcx] at hmk
 have hmd:=B52 on nn a b l ctx hn1 hn2 hcx ha0 hb0 (by rw [←hx,←hy];exact hdf)
 have hgo:=A58 hdf.ok (by omega) (ctx:=ctx) l.length (Nat.le_refl _)
 have hgl:=(U3 l x.length ctx l.length).1
 have hho:F9 l x y ctx=(F2 l x.length ctx l.length).map (F6 l x y):=rfl
 obtain ⟨g,hg⟩:∃g,g=F2 l x.length ctx l.length:=⟨_,rfl⟩
 rw [←hg] at hgo hgl hho ⊢
 refine A4 (A2 (A3 Z Z) Z (A2 (J0 Z Z) Z (A6 ?_)))
 refine k1 ?_
 refine B5 rfl (fun ht=>?_) (fun ht=>?_)
 ·cases ht
 refine k5 (k1 (k2 ?_))
 refine A4 (A2 (A3 Z Z) Z (A2 (A3 Z Z) Z (A2 (I6 Z) Z (D1 (G5 21 Z) Z (F3 (B9 TySz.out Z Z Z Z Z Z) (A6 ?_))))))
 refine O5 [(12,.s (.one (.ref 12 0))),(14,C4 Str 1 I3 x),(16,C4 Str 1 I3 y),(18,C4 Change 4 changeC l),(20,C4 Hunk 6 hunkC g),(21,.s (.one (.ref 21 0)))] [(12,.box [.p (.v (.string ⟨#[]⟩)),.p (.v (.string ⟨#[]⟩)),.p (.v (.slice none 0 0))]),(21,.box [.p (.v (.string ⟨on.toArray⟩)),.p (.v (.string ⟨nn.toArray⟩)),.p (.v (.slice none 0 0))])] (G48 ⟨le1 rfl,le1 rfl,le1 rfl,le1 rfl,le1 rfl,le1 rfl,trivial⟩ ⟨rfl,rfl,trivial⟩) ?_
 refine J3 (G53 702 PatchHunk 3 phunkC 29 (kb:=21) (o:=2) Z Z Z) ?_
 refine k2 (k2 ?_)
 refine A4 (A2 (A3 Z Z) Z (A2 (E0 Z (.pure _ _ _ _)) Z (A2 (A3 Z Z) Z (A6 ?_))))
 refine k1 (k3 ?_)
 refine D9 (X:=Nat) (fun k=>([(12,.s (.one (.ref 12 0))),(14,C4 Str 1 I3 x),(16,C4 Str 1 I3 y),(18,C4 Change 4 changeC l),(21,.s (.one (.ref 21 0))),(94,C4 Hunk 6 hunkC g),(95,C1 g.length),(96,C1 k)],[(12,.box [.p (.v (.string ⟨#[]⟩)),.p (.v (.string ⟨#[]⟩)),.p (.v (.slice none 0 0))]),(21,.box [.p (.v (.string ⟨on.toArray⟩)),.p (.v (.string ⟨nn.toArray⟩)),.buf 702 PatchHunk 3 phunkC ((g.take k).map (F6 l x y))]),(702,.spare ((g.take k).map (F6 l x y)).length 3 29)])) (fun k=>k≤g.length) (fun k=>g.length - k) 0 (Nat.zero_le _) (G48 ⟨le1 rfl,le1 rfl,le1 rfl,le1 rfl,le1 rfl,le1 rfl,le1 rfl,le1 rfl,trivial⟩ ⟨rfl,rfl,rfl,trivial⟩) ?_
 intro k hk
 dsimp only at hk ⊢
 refine k2 ?_
 refine A4 (A2 (E9 Z Z) Z (A6 ?_))
 refine k1 (k2 ?_)
 refine B5 rfl (fun ht=>?_) (fun ht=>?_)
 ·have hlt:k < g.length:=by have:=A0 ht;omega
  obtain ⟨q,hqe⟩:∃q,q=g[k]:=⟨_,rfl⟩
  have hv:g[k]?=some q:=by rw [hqe];simp [hlt]
  have hq:=hgo _ (G98 hv)
  have htk:(g.take (k+1)).map (F6 l x y)=(g.take k).map (F6 l x y)++[F6 l x y q]:=by rw [G89 hlt,H02,hqe];rfl
  obtain ⟨hs,hhs⟩:∃hs,hs=(g.take k).map (F6 l x y):=⟨_,rfl⟩
  have hhl:hs.length=k:=by rw [hhs,H20,G90];omega
  rw [←hhs] at htk ⊢
  obtain ⟨z,hz⟩:∃z,z=F6 l x y q:=⟨_,rfl⟩
  refine k5 (k1 (k2 (k3 (k2 ?_))))
  refine A4 (A2 (B1 Z (.pure _ _ _ _) Z (by omega) hv) Z (A2 (E3 Z Z) Z (D1 (G5 23 Z) Z (F3 (B9 TySz.out Z Z Z Z Z Z) (A6 ?_)))))
  refine k1 ?_
  refine C5 (by kernel_rfl) (by kernel_rfl) (A7 (A8 Z) Z Z (A7 (A9 Z Z Z) Z Z (A7 (D4 Z Z Z) Z Z (A7 (A3 Z Z) Z Z (A7 (A3 Z Z) Z Z (A7 (A3 Z Z) Z Z (A7 (F5 (F87 l x y q hdf.ok hq (by omega) (by omega) (by omega)) Z Z) Z Z (A7 (D8 (c:=phunkC) (ys:=[F6 l x y q]) (E5 Z Z Z Z G8) Z Z Z) Z Z (C76 (J2 Z Z Z (.pure _ _ _ _) (by (simp only [G81,G83];omega)) Z) Z Z (A7 (A8 Z) Z Z (Y5 (B9 TySz.out Z Z Z Z Z Z) Z (F4 ?_))))))))))))
  rw [←htk]
  refine k4 (k1 ?_)
  refine A4 (A2 (C0 Z Z (by omega)) Z (A2 (A3 Z Z) Z (A6 ?_)))
  refine k1 ?_
  exact ⟨k+1,hlt,by omega,G48 ⟨le1 rfl,le1 rfl,le1 rfl,le1 rfl,le1 rfl,le1 rfl,le1 rfl,le1 rfl,trivial⟩ ⟨rfl,rfl,rfl,trivial⟩⟩
 ·have hk':k=g.length:=by have:=A1 ht;omega
  subst hk'
  rw [G95,←hho]
  have hfit:=hmd.fit
  have hrg:=hmd.rg
  have hwr:=hmd.wr
  rw [←hx,←hy] at hfit hrg hwr
  refine k6 (k2 (k2 ?_))
  refine A4 (A2 (D4 Z Z Z) Z (C8 (E68 ⟨on,nn,F9 l x y ctx⟩ hfit hrg) Z Z Z ?_));rintro _ rfl;refine A2 (N7 Z Z) Z (A6 ?_)
  refine k1 ?_
  refine B5 rfl (fun ht=>?_) (fun ht=>?_)
  ·have h4:=A0 ht
   exact absurd h4 (by omega)
  ·refine k5 (k1 (k2 ?_))
   refine A4 (A2 (D4 Z Z Z) Z (F3 (B9 TySz.out Z Z Z Z Z Z) (A2 (A5 Z Z) Z (A6 ?_))))
   refine k1 (k10 ?_)
   exact B6 (rs:=[pPatch ⟨on,nn,F9 l x y ctx⟩,G2 0]) (D63 rfl rfl rfl rfl rfl rfl rfl) (by rw [hmk])
theorem G37 (on nn a b:Str) (ctx:Int) (d:Bool) (ha:a.length≤4096) (hb:b.length≤4096) :
  FnOk Tryz.prog 75 [K6 on,K6 nn,K6 a,K6 b,G2 ctx,O4 d] (fun rs=>rs=[pPatch (R6 on nn a b ctx d).1,G2 (R6 on nn a b ctx d).2]):=G01 on nn a b ctx d (C24 ha) (C24 hb)
theorem B25 {p:Patch} (h1:H1 p=0):G7 p.OldName=true∧G7 p.NewName=true:=by
 have h:¬(G7 p.OldName=false∨G7 p.NewName=false):=fun q=>by
  unfold H1 at h1;rw [if_pos q] at h1;exact absurd h1 (by decide)
 exact ⟨by cases q:G7 p.OldName<;>simp [q] at h ⊢,by cases q:G7 p.NewName<;>simp [q] at h ⊢⟩
theorem B47 (p:Patch) (hp:szP p.Hunks≤268435456):FnOk Tryz.prog 29 [pPatch p] (fun rs=>rs=[K6 (if H1 p≠0 then [] else M1 p),G2 (H1 p)]):=by
 refine FnOk.intro Tryz.func29 (by decide) Z Z Z Z ?_
 refine k2 ?_
 refine A4 (D1 (Y6 1 Z Z Z) Z (A2 (A5 Z Z) Z (A2 (A5 Z Z) Z (A6 ?_))))
 refine k1 (k2 (k2 ?_))
 refine A4 (A2 (D4 Z Z Z) Z (C8 (C12 p hp) Z Z Z ?_));rintro _ rfl;refine A2 (A5 Z Z) Z (A6 ?_)
 refine k1 (k2 ?_)
 refine A4 (A2 (A3 Z Z) Z (A2 (J0 Z Z) Z (A6 ?_)))
 refine k1 ?_
 refine B5 rfl (fun ht=>?_) (fun ht=>?_)
 ·have h1:H1 p≠0:=A0 ht
  rw [if_pos h1]
  refine k2 ?_
  refine A4 (A2 (A3 Z Z) Z (A2 (A5 Z Z) Z (A2 (A5 Z Z) Z (A6 ?_))))
  refine k1 (k10 (k11 ?_))
  exact B6 (x7 rfl rfl rfl rfl rfl) rfl
 ·have h1:¬H1 p≠0:=A1 ht
  have hr:=j6 (check12_good h1)
  obtain ⟨hn1,hn2⟩:=B25 (Decidable.not_not.1 h1)
  have hn3:=A0 hn1
  have hn4:=A0 hn2
  have hpf:PFit p:=⟨by omega,by omega,hp⟩
  rw [if_neg h1,Decidable.not_not.1 h1]
  refine k5 (k1 (k2 ?_))
  refine A4 (A2 (D4 Z Z Z) Z (C8 (C35 p hpf (fun x hx=>by have:=hr x hx;omega)) Z Z Z ?_));rintro _ rfl;refine A2 (A5 Z Z) Z (A2 (A5 Z Z) Z (A6 ?_))
  refine k1 (k10 ?_)
  exact B6 (x7 rfl rfl rfl rfl rfl) rfl
theorem F29:R6 [120] [120] [97,10,98] [97,10,99,10] 1 false=(awakeP,0):=by
 have h:=(E90 [120] [120] [97,10,98] [97,10,99,10] 1 (by decide) (by decide) (by decide) (by decide) (by decide) (by decide)).1
 rw [F38] at h
 unfold R6 l4
 rw [if_neg (by decide),if_neg (by decide),if_neg (by decide)]
 exact h.symm
theorem G38:R8 0 2=[49,44,50]:=by
 unfold R8
 rw [if_neg (by decide),if_neg (by decide),if_neg (by decide),show (0:Int)+1=1 from rfl,C18 1 (by decide) (by decide),C18 2 (by decide) (by decide)]
 decide
theorem F30:T4 ⟨0,0,[⟨32,[97,10]⟩,⟨45,[98]⟩,⟨43,[99,10]⟩]⟩=[64,64,32,45,49,44,50,32,43,49,44,50,32,64,64,10]:=by
 unfold T4
 rw [show M4 ⟨0,0,[⟨32,[97,10]⟩,⟨45,[98]⟩,⟨43,[99,10]⟩]⟩=2 by decide,show N2 ⟨0,0,[⟨32,[97,10]⟩,⟨45,[98]⟩,⟨43,[99,10]⟩]⟩=2 by decide]
 dsimp only
 rw [G38]
 decide
theorem E78:M1 awakeP=[45,45,45,32,120,10,43,43,43,32,120,10,64,64,32,45,49,44,50,32,43,49,44,50,32,64,64,10,32,97,10,45,98,10,92,32,78,111,32,110,101,119,108,105,110,101,32,97,116,32,101,110,100,32,111,102,32,102,105,108,101,10,43,99,10]:=by
 unfold M1 A15 awakeP
 dsimp only [List.map]
 unfold T3
 rw [F30]
 decide
theorem B48:FnOk Tryz.prog 27 [] (fun rs=>rs=[O4 true]):=by
 have hmk:=G37 [120] [120] [97,10,98] [97,10,99,10] 1 false (by decide) (by decide)
 rw [F29] at hmk
 have hf:=B47 awakeP (by decide)
 rw [C47,if_neg (by decide),E78] at hf
 refine FnOk.intro Tryz.func27 (by decide) Z Z Z Z ?_
 refine k2 ?_
 refine A4 (A2 (A5 Z Z) Z (A6 ?_))
 refine k1 (k2 ?_)
 refine A4 (C8 (hmk) Z Z Z ?_);rintro _ rfl;refine A2 (A3 Z Z) Z (A2 (C6 Z Z) Z (A2 (C6 Z Z) Z (D1 (G5 1 Z) Z (F3 (B9 TySz.out Z Z Z Z Z Z) (A2 (A5 Z Z) Z (A6 ?_))))))
 refine k1 (k2 ?_)
 refine A4 (A2 (D4 Z Z Z) Z (C8 (hf) Z Z Z ?_));rintro _ rfl;refine A2 (A3 Z Z) Z (A2 (C6 Z Z) Z (A2 (C6 Z Z) Z (A2 (A5 Z Z) Z (A2 (A5 Z Z) Z (A6 ?_)))))
 refine k1 (k2 ?_)
 refine A4 (A2 (A3 Z Z) Z (A2 (I2 Z Z) Z (A2 (A3 Z Z) Z (B0 Z Z Z Z (fun hg=>by rw [hg];exact A3 Z Z) ?_))));refine B0 Z Z Z Z (fun hg=>by rw [hg];exact I2 Z Z) ?_;refine A2 (B2 Z (fun h=>by first | rfl | (rw [h];rfl)) (fun h=>by first | rfl | (rw [h];rfl))) Z ?_;refine A2 (A3 Z Z) Z (B0 Z Z Z Z (fun hg=>by rw [hg];exact A3 Z Z) ?_);refine B0 Z Z Z Z (fun hg=>by rw [hg];exact B00 Z Z) ?_;refine A2 (B2 Z (fun h=>by first | rfl | (rw [h];rfl)) (fun h=>by first | rfl | (rw [h];rfl))) Z ?_;refine A2 (A5 Z Z) Z (A6 ?_)
 refine k1 (k10 ?_)
 exact B6 (G4 rfl rfl rfl) (by simp)
theorem C64 {k:UInt8} {n:UInt8} (h:decide ((k.toNat:Int)=(n.toNat:Int))=true):k=n:=UInt8.toNat_inj.1 (by have:=A0 h;omega)
theorem B80 {k:UInt8} {n:UInt8} (h:decide ((k.toNat:Int)=(n.toNat:Int))=false):¬k=n:=fun e=>by have:=A1 h;rw [e] at this;exact this rfl
theorem G02 (p:Patch) (hp:szP p.Hunks≤268435456):FnOk Tryz.prog 31 [pPatch p] (fun rs=>rs=[G2 (l5 45 p.Hunks),G2 (l5 43 p.Hunks)]):=by
 obtain ⟨hs,hhs⟩:∃hs,hs=p.Hunks:=⟨_,rfl⟩
 rw [←hhs] at hp
 have hsl:=n8 hs
 refine FnOk.intro Tryz.func31 (by decide) Z Z Z Z ?_
 refine k2 ?_
 refine A4 (D1 (Y6 1 Z Z Z) Z (A2 (A5 Z Z) Z (A2 (A5 Z Z) Z (A6 ?_))))
 refine k1 (k2 ?_)
 refine A4 (A2 (A5 Z Z) Z (A2 (A5 Z Z) Z (A6 ?_)))
 refine k1 (k2 (k2 ?_))
 refine A4 (A2 (A8 Z) Z (A2 (A9 Z Z Z) Z (A2 (E0 Z (.pure _ _ _ _)) Z (A2 (A3 Z Z) Z (A6 ?_)))))
 rw [←hhs]
 refine k1 (k3 ?_)
 refine D9 (X:=Nat) (fun j=>([(4,C1 (l5 45 (hs.take j))),(5,C1 (l5 43 (hs.take j))),(11,C4 PatchHunk 3 phunkC hs),(12,C1 hs.length),(13,C1 j)],[])) (fun j=>j≤hs.length) (fun j=>hs.length - j) 0 (Nat.zero_le _) (G48 ⟨le1 rfl,le1 rfl,le1 rfl,le1 rfl,le1 rfl,trivial⟩ trivial) ?_
 intro j hj
 dsimp only at hj ⊢
 refine k2 ?_
 refine A4 (A2 (E9 Z Z) Z (A6 ?_))
 refine k1 (k2 ?_)
 refine B5 rfl (fun ht=>?_) (fun ht=>?_)
 ·have hlt:j < hs.length:=by have:=A0 ht;omega
  obtain ⟨h,hh⟩:∃h,h=hs[j]:=⟨_,rfl⟩
  have hv:hs[j]?=some h:=by rw [hh];simp [hlt]
  have n1:=A40 45 hs j h hv
  have n2:=A40 43 hs j h hv
  have hll:h.Lines.length≤268435456:=by
   have h3:=n7 (G98 hv)
   have h4:=W3 h.Lines
   unfold szH at h3;omega
  refine k5 (k1 (k2 (k3 (k2 ?_))))
  refine A4 (A2 (B1 Z (.pure _ _ _ _) Z (by omega) hv) Z (A2 (E3 Z Z) Z (D1 (G5 7 Z) Z (F3 (B9 TySz.out Z Z Z Z Z Z) (A6 ?_)))))
  refine k1 (k2 ?_)
  refine A4 (A2 (A8 Z) Z (A2 (A9 Z Z Z) Z (A2 (E0 Z (.pure _ _ _ _)) Z (A2 (A3 Z Z) Z (A6 ?_)))))
  refine k1 (k3 ?_)
  refine D9 (X:=Nat) (fun i=>([(4,C1 ((l5 45 (hs.take j)+t6 45 (h.Lines.take i):Nat):Int)),(5,C1 ((l5 43 (hs.take j)+t6 43 (h.Lines.take i):Nat):Int)),(11,C4 PatchHunk 3 phunkC hs),(12,C1 hs.length),(13,C1 j),(18,C4 PatchLine 2 plineC h.Lines),(19,C1 h.Lines.length),(20,C1 i)],[])) (fun i=>i≤h.Lines.length) (fun i=>h.Lines.length - i) 0 (Nat.zero_le _) (G48 ⟨le1 rfl,le1 rfl,le1 rfl,le1 rfl,le1 rfl,le1 rfl,le1 rfl,le1 rfl,trivial⟩ trivial) ?_
  intro i hi
  dsimp only at hi ⊢
  have b1:=B15 45 hs j i h hv
  have b2:=B15 43 hs j i h hv
  refine k2 ?_
  refine A4 (A2 (E9 Z Z) Z (A6 ?_))
  refine k1 (k2 ?_)
  refine B5 rfl (fun ht=>?_) (fun ht=>?_)
  ·have hlt2:i < h.Lines.length:=by have:=A0 ht;omega
   obtain ⟨x,hx⟩:∃x,x=h.Lines[i]:=⟨_,rfl⟩
   have hvx:h.Lines[i]?=some x:=by rw [hx];simp [hlt2]
   have s1:=B14 45 h.Lines i x hvx
   have s2:=B14 43 h.Lines i x hvx
   refine k5 (k1 (k2 (k3 (k2 ?_))))
   refine A4 (A2 (B1 Z (.pure _ _ _ _) Z (by omega) hvx) Z (A2 (E3 Z Z) Z (D1 (G5 9 Z) Z (F3 (B9 TySz.out Z Z Z Z Z Z) (A6 ?_)))))
   refine k1 (k2 ?_)
   refine A4 (A2 (A8 Z) Z (A2 (A9 Z Z Z) Z (A6 ?_)))
   refine k1 (k3 (k2 ?_))
   refine A4 (A2 (I2 Z Z) Z (A2 (A5 Z Z) Z (A6 ?_)))
   refine k1 ?_
   refine B5 rfl (fun ht=>?_) (fun ht=>?_)
   ·have h3:x.Kind=45:=C64 ht
    rw [if_pos h3] at s1
    rw [if_neg (by rw [h3];decide)] at s2
    skip
    refine A4 (A2 (A3 Z Z) Z (A2 (C0 Z Z (by omega)) Z (A2 (A5 Z Z) Z (A6 ?_))))
    refine k4 (k4 (k1 ?_))
    refine A4 (A2 (C0 Z Z (by omega)) Z (A2 (A3 Z Z) Z (A6 ?_)))
    refine k1 ?_
    refine ⟨i+1,hlt2,by omega,?_⟩
    rw [s1,s2,←Nat.add_assoc,Nat.add_zero,H18 (l5 45 (hs.take j)+t6 45 (h.Lines.take i)) 1]
    exact G48 ⟨le1 rfl,le1 rfl,le1 rfl,le1 rfl,le1 rfl,le1 rfl,le1 rfl,le1 rfl,trivial⟩ trivial
   ·have h3:¬x.Kind=45:=B80 ht
    rw [if_neg h3] at s1
    refine k2 ?_
    refine A4 (A2 (I2 Z Z) Z (A2 (A5 Z Z) Z (A6 ?_)))
    refine k1 ?_
    refine B5 rfl (fun ht=>?_) (fun ht=>?_)
    ·have h4:x.Kind=43:=C64 ht
     rw [if_pos h4] at s2
     skip
     refine A4 (A2 (A3 Z Z) Z (A2 (C0 Z Z (by omega)) Z (A2 (A5 Z Z) Z (A6 ?_))))
     refine k4 (k4 (k1 ?_))
     refine A4 (A2 (C0 Z Z (by omega)) Z (A2 (A3 Z Z) Z (A6 ?_)))
     refine k1 ?_
     refine ⟨i+1,hlt2,by omega,?_⟩
     rw [s1,s2,←Nat.add_assoc,Nat.add_zero,←Nat.add_assoc,H18 (l5 43 (hs.take j)+t6 43 (h.Lines.take i)) 1]
     exact G48 ⟨le1 rfl,le1 rfl,le1 rfl,le1 rfl,le1 rfl,le1 rfl,le1 rfl,le1 rfl,trivial⟩ trivial
    ·have h4:¬x.Kind=43:=B80 ht
     rw [if_neg h4] at s2
     refine k5 (k4 (k4 (k1 ?_)))
     refine A4 (A2 (C0 Z Z (by omega)) Z (A2 (A3 Z Z) Z (A6 ?_)))
     refine k1 ?_
     refine ⟨i+1,hlt2,by omega,?_⟩
     rw [s1,s2,Nat.add_zero,Nat.add_zero]
     exact G48 ⟨le1 rfl,le1 rfl,le1 rfl,le1 rfl,le1 rfl,le1 rfl,le1 rfl,le1 rfl,trivial⟩ trivial
  ·have hi2:i=h.Lines.length:=by have:=A1 ht;omega
   subst hi2
   rw [G95,←n1,←n2]
   refine k6 (k7 (k7 (k8 Z (k4 (k1 ?_)))))
   refine A4 (A2 (C0 Z Z (by omega)) Z (A2 (A3 Z Z) Z (A6 ?_)))
   refine k1 ?_
   exact ⟨j+1,hlt,by omega,G48 ⟨le1 rfl,le1 rfl,le1 rfl,le1 rfl,le1 rfl,trivial⟩ trivial⟩
 ·have hj2:j=hs.length:=by have:=A1 ht;omega
  subst hj2
  rw [G95]
  refine k6 (k2 ?_)
  refine A4 (A2 (A3 Z Z) Z (A2 (A3 Z Z) Z (A2 (A5 Z Z) Z (A2 (A5 Z Z) Z (A6 ?_)))))
  refine k1 (k10 ?_)
  exact B6 (x7 rfl rfl rfl rfl rfl) rfl
set_option maxHeartbeats 1000000
end Go.Proofs.YtbiadkkamhpdnaaGreatDoor
