/- Walks of the program's functions. -/
import Derived.Test.YtjmoigcpoopjhaaGreatDoorFc
import Derived.Test.YtjmoigcpoopjhaaGreatDoorFa
import Derived.Test.YtjmoigcpoopjhaaGreatDoorFs
import Derived.Test.YtjmoigcpoopjhaaGreatDoorAn
import Derived.Test.YtjmoigcpoopjhaaGreatDoorFb
set_option linter.unusedSimpArgs false
namespace Go.Proofs.YtjmoigcpoopjhaaGreatDoor
open Go Go.AL
set_option maxRecDepth 100000
set_option maxHeartbeats 1000000
abbrev isS (l:List Int):S1:=.one (.p (.list Int 1 F2 l))
theorem K49 (f:Str × Str→Bool) (g:Graph) (c:Nat):(O4 g c).flatten.any f=n8 f g c:=by
 unfold n8
 rw [List.any_flatten]
theorem C16 (g:Graph) (s:Int) (f:FuncId) (α:Type) (ec:Nat) (cc:α→Nat→Cell) (v:α) (pr:Str × Str→Bool) (h:FewT g) (hs6:Short g)
  (hf:Valid g→∀c:Nat,c < g.length→∀x∈(O4 g c).flatten,AL.Met Tryz.prog f [H78 x,.one (.eref α ec cc v 0)] [] [] [] (fun rs ob'=>rs=[C10 (pr x)]∧ob'=[])) :
  AL.Met Tryz.prog 11 [.one (.p (.list Commit 3 H2 g)),R5 s,.one (.fncE f α ec cc v)] [] [] [] (fun rs ob'=>rs=[isS (Q5 pr g s).1,R5 (Q5 pr g s).2]∧ob'=[]):=by
 refine AL.Met.intro Tryz.func11 (by decide) A0 A0 A0 ?_
 refine k2 (A3 (A7 A0 A0 (A7 A0 A0 (A5 ?_))));refine k1 (k2 (A3 (A4 A0 A0 (A4 A0 A0 (A6 (D7 (c:=F2) (ys:=[s]) (G6 A0 A0 A0 A0 I0) A0 A0 A0) A0 (C9 (G27 g s h) A0 A0 A0 ?_))))));rintro _ rfl;refine A4 A0 A0 (E8 A0 A0 A0 (E8 A0 A0 A0 (A7 A0 A0 (A7 A0 A0 (A5 ?_)))));refine k1 (k2 (k2 (A3 (A4 A0 A0 (A6 (O2 A0 A0) A0 (A5 ?_))))));refine k1 ?_;refine B1 rfl (fun ht=>?_) (fun ht=>?_)
 ·have h3:(X1 g s).2≠0:=A1 ht
  refine k2 (A3 (A4 A0 A0 (A6 (H4 _ 1 F2) A0 (A7 A0 A0 (A5 ?_)))));refine k1 (k10 (k11 ?_))
  exact G7 (RetOk.s2 (a6 rfl rfl rfl rfl rfl)) (by repeat (first | exact A8 | refine A9 rfl ?_ | refine D4 _ ?_)) (ObIn.spec (ob':=[]) trivial) ⟨by unfold Q5;rw [if_pos h3],rfl⟩
 have h3:¬(X1 g s).2≠0:=A2 ht
 obtain ⟨hv,hrg,hnd⟩:Valid g∧(∀x∈(X1 g s).1,0≤x∧x < (g.length:Int))∧(X1 g s).1.Nodup:=by
  unfold X1 at h3 ⊢
  split at h3
  ·rename_i hd;exact absurd hd h3
  ·rename_i hd
   rw [if_neg hd]
   have:=A60 (Decidable.not_not.1 hd)
   split
   ·exact ⟨this,(E46 g [s]).2,(E46 g [s]).1⟩
   ·exact ⟨this,(fun _ h=>by cases h),List.nodup_nil⟩
 have hres2:Q5 pr g s=((X1 g s).1.filter fun c=>n8 pr g c.toNat,0):=by unfold Q5;rw [if_neg h3]
 rw [hres2]
 obtain ⟨O,hO⟩:∃O,O=(X1 g s).1:=⟨_,rfl⟩
 rw [←hO] at hrg hnd ⊢
 have hOl:=u7 hnd hrg
 have hg:=h.few.len
 refine k5 (k1 (k2 (A3 (D1 (j4 10 _ F2 A0) A0 (A5 ?_)))));refine k1 (k2 (k2 (A3 (A4 A0 A0 (F4 A0 A0 (A4 A0 A0 (A5 ?_)))))));refine k1 (k3 (D2 (X:=Nat) (fun k=>([(0,D6 Commit 3 H2 g),(2,.s (.one (.fncE f α ec cc v))),(10,.s (.one (.buf 10 Int 1 F2 ((O.take k).filter fun c=>n8 pr g c.toNat)))),(23,D6 Int 1 F2 O),(24,C7 O.length),(25,C7 k)],[(10,.spare ((O.take k).filter fun c=>n8 pr g c.toNat).length 1 3)])) (fun k=>k≤O.length) (fun k=>O.length - k) 0 (Nat.zero_le _) (Sees.of ⟨le1 rfl,le1 rfl,le1 rfl,le1 rfl,le1 rfl,le1 rfl,trivial⟩ ⟨rfl,trivial⟩) ?_))
 intro k hk
 dsimp only at hk ⊢
 have hfl:=List.length_filter_le (fun c:Int=>n8 pr g c.toNat) (O.take k)
 rw [L10] at hfl
 refine k2 (A3 (F7 A0 A0 A0 (A5 ?_)));refine k1 (k2 ?_);refine B1 rfl (fun ht=>?_) (fun ht=>?_)
 rotate_left
 ·have hke:k=O.length:=by have h1:=A2 ht;(try dsimp only at h1);omega
  rw [hke,L08]
  refine k6 (k2 (A3 (A4 A0 A0 (A7 A0 A0 (A7 A0 A0 (A5 ?_))))));refine k1 (k10 ?_)
  exact G7 (RetOk.s2 (a6 rfl rfl rfl rfl rfl)) (by repeat (first | exact A8 | refine A9 rfl ?_ | refine D4 _ ?_)) (ObIn.spec (ob':=[]) trivial) ⟨rfl,rfl⟩
 have hklt:k < O.length:=by have h1:=A1 ht;(try dsimp only at h1);omega
 have hcr:=hrg _ (L05 hklt)
 obtain ⟨c,hc⟩:∃c:Nat,O[k]=(c:Int):=⟨O[k].toNat,by omega⟩
 have hvk:O[k]?=some (c:Int):=by rw [L01 hklt,hc]
 have hsn:(O.take (k+1)).filter (fun c=>n8 pr g c.toNat)=((O.take k).filter fun c=>n8 pr g c.toNat)++(if n8 pr g c=true then [(c:Int)] else []):=by
  rw [List.take_add_one,hvk,Option.toList_some,List.filter_append]
  congr 1
  rw [L46,L03];rfl
 obtain ⟨F,hF⟩:∃F,F=(O.take k).filter fun c=>n8 pr g c.toNat:=⟨_,rfl⟩
 rw [←hF] at hfl hsn ⊢
 have hB:=D88 h hv c
 have hfl2:=B55 hB (O4 g c).length
 unfold t6 at hfl2
 rw [L08] at hfl2
 have hfx:=hf hv c (by omega)
 have hap:=K49 pr g c
 refine k5 (k1 (k2 (k3 (k2 (A3 (A6 (B6 A0 (.pure _ _ _ _) A0 (by omega) hvk) A0 (A6 (B3 A0 A0) A0 (A7 A0 A0 (A5 ?_)))))))));refine k1 (k2 (A3 (A4 A0 A0 (A4 A0 A0 (C9 (G23 g c h hv hs6 (by omega)) A0 A0 A0 ?_)))));rintro _ rfl;refine C9 (F86 (O4 g c) hB) A0 A0 A0 ?_;rintro _ rfl;refine A4 A0 A0 (A33 (D89 f α ec cc v pr (O4 g c).flatten (by omega) hfx) A0 A0 A0 A0 ?_);rintro _ _ ⟨rfl,rfl⟩;refine ⟨rfl,?_⟩;refine A5 ?_
 rw [hap]
 refine k1 ?_;refine B1 rfl (fun ht=>?_) (fun ht=>?_)
 ·rw [if_pos ht] at hsn
  skip
  refine A3 (A4 A0 A0 (A4 A0 A0 (A6 (D7 (c:=F2) (ys:=[(c:Int)]) (G6 A0 A0 A0 A0 I0) A0 A0 A0) A0 (D1 (P0 A0 A0 A0 (.pure _ _ _ _) (by (simp only [L04,L09];omega)) A0) A0 (A7 A0 A0 (A5 ?_))))));refine k4 (k1 (A3 (E3 A0 A0 A0 (A4 A0 A0 (A5 ?_)))));refine k1 ?_;refine ⟨k+1,by omega,by omega,?_⟩
  rw [hsn]
  exact (Sees.of ⟨le1 rfl,le1 rfl,le1 rfl,le1 rfl,le1 rfl,le1 rfl,trivial⟩ ⟨rfl,trivial⟩)
 ·rw [ht,if_neg (by decide),L29] at hsn
  refine k5 (k4 (k1 (A3 (E3 A0 A0 A0 (A4 A0 A0 (A5 ?_))))));refine k1 ?_;refine ⟨k+1,by omega,by omega,?_⟩
  rw [hsn]
  exact (Sees.of ⟨le1 rfl,le1 rfl,le1 rfl,le1 rfl,le1 rfl,le1 rfl,trivial⟩ ⟨rfl,trivial⟩)
theorem C17 (g:Graph) (s:Int) (nd:Str) (h:FewT g) (hs6:Short g) (hn:nd.length≤1073741824):FnOk Tryz.prog 6 [K3 g,E2 s,H7 nd] (fun rs=>rs=[K9 (X9 g s nd).1,E2 (X9 g s nd).2]):=by
 refine FnOk.intro Tryz.func6 (by decide) A0 A0 A0 A0 ?_
 refine k2 (A3 (A6 (n_boxE A0 A0) A0 (A6 (H4 _ 1 F2) A0 (A7 A0 A0 (A5 ?_)))));refine k1 (k2 (k3 (k2 (A3 (A6 (B3 A0 A0) A0 (A6 (O5 A0 A0) A0 (A7 A0 A0 (A5 ?_))))))));refine k1 ?_;refine B1 rfl (fun ht=>?_) (fun ht=>?_)
 ·have h1:nd=[]:=A1 ht
  refine k2 (A3 (A6 (H4 _ 1 F2) A0 (A7 A0 A0 (A5 ?_))));refine k1 (k10 (k12 (k11 ?_)))
  exact B8 (rs:=[K9 [],E2 2]) (a6 rfl rfl rfl rfl rfl) (by unfold X9;rw [if_pos h1])
 have h1:¬nd=[]:=A2 ht
 refine k2 (A3 (A6 (B3 A0 A0) A0 (A6 (J7 A0) A0 (A6 (O1 A0 A0) A0 (A7 A0 A0 (A5 ?_))))));refine k1 ?_;refine B1 rfl (fun ht=>?_) (fun ht=>?_)
 ·have h2:(256:Int) < nd.length:=A1 ht
  refine k2 (A3 (A6 (H4 _ 1 F2) A0 (A7 A0 A0 (A5 ?_))));refine k1 (k10 (k12 (k11 ?_)))
  exact B8 (rs:=[K9 [],E2 1]) (a6 rfl rfl rfl rfl rfl) (by unfold X9;rw [if_neg h1,if_pos (by omega)])
 have h2:¬(256:Int) < nd.length:=A2 ht
 have hres:X9 g s nd=Q5 (differs nd) g s:=by unfold X9;rw [if_neg h1,if_neg (by omega)]
 rw [hres]
 refine k5 (k2 (A3 (A4 A0 A0 (A4 A0 A0 (A6 (A16 A0) A0 ?_)))))
 refine A33 (C16 g s 12 Unit 1 (cE nd) () (differs nd) h hs6 (fun hv c hc x hx=>by
  obtain ⟨l,hl,hxl⟩:=List.mem_flatten.1 hx
  have hb:=(D88 h hv c).strs l hl x hxl
  exact K42 nd x hn hb.1 hb.2)) rfl rfl rfl rfl ?_
 rintro _ _ ⟨rfl,rfl⟩;refine ⟨rfl,?_⟩;refine E8 A0 A0 A0 (E8 A0 A0 A0 (A7 A0 A0 (A7 A0 A0 (A5 ?_))))
 refine k1 (k10 ?_)
 exact B8 (rs:=[K9 (Q5 (differs nd) g s).1,E2 (Q5 (differs nd) g s).2]) (a6 rfl rfl rfl rfl rfl) rfl
theorem I76 (g:Graph) (c:Int) (nd:Str) (h:FewT g) (hs6:Short g) (hn:nd.length≤1073741824):FnOk Tryz.prog 9 [K3 g,E2 c,H7 nd] (fun rs=>rs=[K9 (y8 g c nd).1,E2 (y8 g c nd).2]):=by
 refine FnOk.intro Tryz.func9 (by decide) A0 A0 A0 A0 ?_
 refine k2 (A3 (A7 A0 A0 (A7 A0 A0 (A5 ?_))));refine k1 (k2 (k2 (A3 (A4 A0 A0 (A4 A0 A0 (C9 (J86 g c h hs6) A0 A0 A0 ?_))))));rintro _ ⟨_,rfl⟩;refine A4 A0 A0 (E8 A0 A0 A0 (E8 A0 A0 A0 (A7 A0 A0 (A7 A0 A0 (A5 ?_)))));refine k1 (k2 (A3 (A4 A0 A0 (A6 (O2 A0 A0) A0 (A5 ?_)))));refine k1 ?_;refine B1 rfl (fun ht=>?_) (fun ht=>?_)
 ·have h1:a8 g c≠0:=A1 ht
  refine k2 (A3 (A4 A0 A0 (A6 (H4 _ 1 F2) A0 (A7 A0 A0 (A5 ?_)))));refine k1 (k10 (k11 ?_))
  exact B8 (rs:=[K9 [],E2 (a8 g c)]) (a6 rfl rfl rfl rfl rfl) (by unfold y8;rw [if_pos h1])
 have h1:¬a8 g c≠0:=A2 ht
 obtain ⟨hv,hc0,hc1⟩:=E22 (Decidable.not_not.1 h1)
 obtain ⟨k,rfl⟩:∃k:Nat,c=(k:Int):=⟨c.toNat,by omega⟩
 have hres:y8 g (k:Int) nd=((O4 g k).map (j1 nd),0):=by unfold y8;rw [if_neg h1,L03]
 rw [hres]
 have hB:=D88 h hv k
 refine k5 (k1 (k2 (A3 (D1 (j4 10 _ F2 A0) A0 (A5 ?_)))));refine k1 (k2 (k2 (A3 (A4 A0 A0 (A4 A0 A0 (C9 (G23 g k h hv hs6 (by omega)) A0 A0 A0 ?_))))));rintro _ rfl;refine F4 A0 A0 (A4 A0 A0 (A5 ?_))
 obtain ⟨B,hBd⟩:∃B,B=O4 g k:=⟨_,rfl⟩
 rw [←hBd] at hB ⊢
 have hBl:=hB.len
 refine k1 (k3 (D2 (X:=Nat) (fun p=>([(2,Z9 nd),(10,.s (.one (.buf 10 Int 1 F2 ((B.take p).map (j1 nd))))),(27,D6 (List (Str × Str)) 1 B21 B),(28,C7 B.length),(29,C7 p)],[(10,.spare ((B.take p).map (j1 nd)).length 1 3)])) (fun p=>p≤B.length) (fun p=>B.length - p) 0 (Nat.zero_le _) (Sees.of ⟨le1 rfl,le1 rfl,le1 rfl,le1 rfl,le1 rfl,trivial⟩ ⟨rfl,trivial⟩) ?_))
 intro p hp
 dsimp only at hp ⊢
 have hml:((B.take p).map (j1 nd)).length≤33:=by rw [L33,L10];omega
 refine k2 (A3 (F7 A0 A0 A0 (A5 ?_)));refine k1 (k2 ?_);refine B1 rfl (fun ht=>?_) (fun ht=>?_)
 rotate_left
 ·have hpe:p=B.length:=by have h1:=A2 ht;(try dsimp only at h1);omega
  rw [hpe,L08]
  refine k6 (k2 (A3 (A4 A0 A0 (A7 A0 A0 (A7 A0 A0 (A5 ?_))))));refine k1 (k10 ?_)
  exact B8 (rs:=[K9 (B.map (j1 nd)),E2 0]) (a6 rfl rfl rfl rfl rfl) rfl
 have hplt:p < B.length:=by have h1:=A1 ht;(try dsimp only at h1);omega
 have hs:=H77 (nd:=nd) hplt
 obtain ⟨l,hl⟩:∃l,l=B[p]:=⟨_,rfl⟩
 have hvl:B[p]?=some l:=by rw [hl];simp [hplt]
 have hlm:l∈B:=by rw [hl];exact L05 hplt
 have hll:=hB.lens l hlm
 rw [←hl] at hs
 obtain ⟨S,hS⟩:∃S,S=(B.take p).map (j1 nd):=⟨_,rfl⟩
 rw [←hS] at hs hml ⊢
 refine k5 (k1 (k2 (k3 (k2 (A3 (A6 (B6 A0 (.pure _ _ _ _) A0 (by omega) hvl) A0 (A6 (B3 A0 A0) A0 (A7 A0 A0 (A5 ?_)))))))));refine k1 (k2 (A3 (A7 A0 A0 (A5 ?_))));refine k1 (k2 (k2 (A3 (A4 A0 A0 (F4 A0 A0 (A4 A0 A0 (A5 ?_)))))));refine k1 (k3 (D2 (X:=Nat) (fun i=>([(2,Z9 nd),(10,.s (.one (.buf 10 Int 1 F2 S))),(13,C7 (j1 nd (l.take i))),(27,D6 (List (Str × Str)) 1 B21 B),(28,C7 B.length),(29,C7 p),(33,D6 (Str × Str) 2 A66 l),(34,C7 l.length),(35,C7 i)],[(10,.spare S.length 1 3)])) (fun i=>i≤l.length) (fun i=>l.length - i) 0 (Nat.zero_le _) (Sees.of ⟨le1 rfl,le1 rfl,le1 rfl,le1 rfl,le1 rfl,le1 rfl,le1 rfl,le1 rfl,le1 rfl,trivial⟩ ⟨rfl,trivial⟩) ?_))
 intro i hi
 dsimp only at hi ⊢
 refine k2 (A3 (F7 A0 A0 A0 (A5 ?_)));refine k1 (k2 ?_);refine B1 rfl (fun ht=>?_) (fun ht=>?_)
 ·have hilt:i < l.length:=by have h1:=A1 ht;(try dsimp only at h1);omega
  have hs2:=K41 (nd:=nd) hilt
  obtain ⟨x,hx⟩:∃x,x=l[i]:=⟨_,rfl⟩
  have hvx:l[i]?=some x:=by rw [hx];simp [hilt]
  have hxs:=hB.strs l hlm x (by rw [hx];exact L05 hilt)
  rw [←hx] at hs2
  have hsb:=F12 (nd:=nd) (l:=l.take i) fun y hy=>hB.strs l hlm y (List.mem_of_mem_take hy)
  rw [L10] at hsb
  have hc1:=D35 nd x.1 hxs.1
  have hc2:=D35 nd x.2 hxs.2
  obtain ⟨s0,hs0⟩:∃s0,s0=j1 nd (l.take i):=⟨_,rfl⟩
  obtain ⟨u1,hu1⟩:∃u1,u1=c7 nd x.1:=⟨_,rfl⟩
  obtain ⟨u2,hu2⟩:∃u2,u2=c7 nd x.2:=⟨_,rfl⟩
  have hmin:min i l.length≤400:=by omega
  have hsb1:-6710887200≤s0∧s0≤6710887200:=by rw [hs0];omega
  rw [←hu1] at hc1
  rw [←hu2] at hc2
  rw [←hs0,←hu1,←hu2] at hs2
  rw [←hs0]
  clear hsb
  have hr1:=C41 nd x.1 hn hxs.1
  have hr2:=C41 nd x.2 hn hxs.2
  rw [←hu1] at hr1
  rw [←hu2] at hr2
  refine k5 (k1 (k2 (k3 (k2 (A3 (A6 (B6 A0 (.pure _ _ _ _) A0 (by omega) hvx) A0 (A6 (E1 A0 A0) A0 (D1 (J1 15 A0) A0 (G1 (B9 TySz.out A0 A0 A0 A0 A0 A0) (A5 ?_))))))))));refine k1 (E7 (by kernel_rfl) (by kernel_rfl) (E9 A0 A0 (E9 A0 A0 (B7 (I5 A0 A0 (by first | omega | decide) (by omega)) A0 A0 (B7 (C5 A0 A0 A0) A0 A0 (B7 (O7 (hr2) A0 A0) A0 A0 (E9 A0 A0 (B7 (I5 A0 A0 (by first | omega | decide) (by omega)) A0 A0 (B7 (C5 A0 A0 A0) A0 A0 (B7 (O7 (hr1) A0 A0) A0 A0 (B7 (N1 A0 A0 (by omega)) A0 A0 (B7 (l6 A0 A0 (by omega)) A0 A0 (B7 (H5 A0 A0) A0 A0 (Q6 ?_))))))))))))));refine k4 (k1 (A3 (E3 A0 A0 A0 (A4 A0 A0 (A5 ?_)))));refine k1 ?_;refine ⟨i+1,by omega,by omega,?_⟩
  rw [hs2]
  exact (Sees.of ⟨le1 rfl,le1 rfl,le1 rfl,le1 rfl,le1 rfl,le1 rfl,le1 rfl,le1 rfl,le1 rfl,trivial⟩ ⟨rfl,trivial⟩)
 ·have hie:i=l.length:=by have h1:=A2 ht;(try dsimp only at h1);omega
  rw [hie,L08]
  refine k6 (k7 (k7 (k8 A0 (k1 (A3 (A4 A0 A0 (A4 A0 A0 (A6 (D7 (c:=F2) (ys:=[j1 nd l]) (G6 A0 A0 A0 A0 I0) A0 A0 A0) A0 (D1 (P0 A0 A0 A0 (.pure _ _ _ _) (by (simp only [L04,L09];omega)) A0) A0 (A7 A0 A0 (A5 ?_)))))))))));refine k4 (k1 (A3 (E3 A0 A0 A0 (A4 A0 A0 (A5 ?_)))));refine k1 ?_;refine ⟨p+1,by omega,by omega,?_⟩
  rw [hs]
  exact (Sees.of ⟨le1 rfl,le1 rfl,le1 rfl,le1 rfl,le1 rfl,trivial⟩ ⟨rfl,trivial⟩)
end Go.Proofs.YtjmoigcpoopjhaaGreatDoor
namespace Go.Proofs.YtjmoigcpoopjhaaGreatDoor
open Go Go.AL
set_option maxRecDepth 100000
end Go.Proofs.YtjmoigcpoopjhaaGreatDoor
namespace Go.Proofs.YtjmoigcpoopjhaaGreatDoor
open Go Go.AL
set_option maxRecDepth 100000
set_option maxHeartbeats 1000000
end Go.Proofs.YtjmoigcpoopjhaaGreatDoor
namespace Go.Proofs.YtjmoigcpoopjhaaGreatDoor
open Go Go.AL
set_option maxRecDepth 100000
end Go.Proofs.YtjmoigcpoopjhaaGreatDoor
namespace Go.Proofs.YtjmoigcpoopjhaaGreatDoor
open Go Go.AL
set_option maxRecDepth 100000
end Go.Proofs.YtjmoigcpoopjhaaGreatDoor
namespace Go.Proofs.YtjmoigcpoopjhaaGreatDoor
open Go Go.AL
set_option maxRecDepth 100000
end Go.Proofs.YtjmoigcpoopjhaaGreatDoor
namespace Go.Proofs.YtjmoigcpoopjhaaGreatDoor
open Go Go.AL
set_option maxRecDepth 100000
end Go.Proofs.YtjmoigcpoopjhaaGreatDoor
namespace Go.Proofs.YtjmoigcpoopjhaaGreatDoor
open Go Go.AL
set_option maxRecDepth 100000
theorem check12_good {p:Patch} (h1:¬D56 p≠0):D99 p.Hunks=true:=by
 by_cases hg:D99 p.Hunks=true
 ·exact hg
 ·exfalso;apply h1;unfold D56;split
  ·decide
  ·rw [if_pos (by simpa using hg)];decide
end Go.Proofs.YtjmoigcpoopjhaaGreatDoor
namespace Go.Proofs.YtjmoigcpoopjhaaGreatDoor
open Go Go.AL
set_option maxRecDepth 100000
end Go.Proofs.YtjmoigcpoopjhaaGreatDoor
namespace Go.Proofs.YtjmoigcpoopjhaaGreatDoor
open Go Go.AL
set_option maxRecDepth 100000
end Go.Proofs.YtjmoigcpoopjhaaGreatDoor
namespace Go.Proofs.YtjmoigcpoopjhaaGreatDoor
open Go Go.AL
set_option maxRecDepth 100000
end Go.Proofs.YtjmoigcpoopjhaaGreatDoor
namespace Go.Proofs.YtjmoigcpoopjhaaGreatDoor
open Go Go.AL
set_option maxRecDepth 100000
theorem F23 (n:Int):FnOk Tryz.prog 90 [E2 n] (fun rs=>rs=[H1 (decide (P8 n))]):=by
 refine FnOk.intro Tryz.func90 (by decide) A0 A0 A0 A0 ?_
 refine k2 (A3 (A7 A0 A0 (A5 ?_)));refine k1 (k2 (A3 (A4 A0 A0 (A6 (V2 A0 A0) A0 (A4 A0 A0 (B5 A0 A0 A0 A0 (fun hg=>by rw [hg];exact C2 A0 A0) ?_))))));refine B5 A0 A0 A0 A0 (fun hg=>by rw [hg];exact B81 A0 A0) ?_;refine K7 A0 A0 ?_;refine A7 A0 A0 (A5 ?_);refine k1 (k10 (B8 (I1 A0 A0 A0) ?_))
 simp only [and_pick]
 rfl
theorem J90 {gf:Fr} {ob:Obs} (p:List Span):AL.Met Tryz.prog 124 [.one (.p (.list Span 2 spanC p))] gf ob [] (fun rs ob'=>rs=[.one (.full Span 2 spanC p)]∧ob'=ob):=by
 refine AL.Met.intro Tryz.func124 (by decide) A0 A0 A0 ?_
 refine k2 (A3 (A7 A0 A0 (A5 ?_)));refine k1 (k2 (A3 (A4 A0 A0 (A4 A0 A0 (F4 A0 A0 (A4 A0 A0 (F4 A0 A0 (A6 (I46 A0 (.pure _ _ _ _) A0 A0 (by omega) (by omega) (by first | rfl | omega)) A0 ?_))))))));refine A7 A0 A0 (A5 ?_)
 rw [show p.take (p.length:Int).toNat=p by simp]
 refine k1 (k10 ?_)
 exact G7 (I8 rfl rfl) (by repeat (first | exact A8 | refine A9 rfl ?_ | refine D4 _ ?_)) (fun _ _ h=>h) ⟨rfl,rfl⟩
def A91 (i j:Int):List Span→List Change
 | []=>[]
 | x::r=>(if x.From > i∨x.To > j then [⟨i,x.From - i,j,x.To - j⟩] else [])++A91 (x.From+1) (x.To+1) r
theorem E27 (m n:Int):∀(p:List Span) (i j:Int),A91 i j (p++[⟨m,n⟩])=A61 i j p m n
 | [],i,j=>by simp [A91,A61]
 | x::r,i,j=>by
  rw [L25,A91,A61,E27 m n r]
theorem F88 (p:List Span) (m n:Int) (hp:p.length≤536870912) (hm:-1099511627776≤m∧m≤1099511627776) (hn:-1099511627776≤n∧n≤1099511627776) (hb:∀s∈p,-1099511627776≤s.From∧s.From≤1099511627776 ∧ -1099511627776≤s.To∧s.To≤1099511627776) :
  FnOk Tryz.prog 91 [pSpans p,E2 m,E2 n] (fun rs=>rs=[pChanges (F45 p m n)]):=by
 refine FnOk.intro Tryz.func91 (by decide) A0 A0 A0 A0 ?_
 refine k2 (A3 (A7 A0 A0 (A5 ?_)));refine k1 (k2 (A3 (D1 (j4 7 _ changeC A0) A0 (A5 ?_))));refine k1 (k2 (A3 (A7 A0 A0 (A7 A0 A0 (A5 ?_)))));refine k1 (k2 (k2 (A3 (A4 A0 A0 (L4 (J90 p) A0 A0 A0 ?_)))));rintro _ _ ⟨rfl,rfl⟩;refine A4 A0 A0 (A4 A0 A0 (A6 (K0 A0) A0 (A6 (D7 (c:=spanC) (ys:=[⟨m,n⟩]) (G6 A0 A0 A0 A0 I0) A0 A0 A0) A0 (D1 (F77 18 A0 A0 (.pure _ _ _ _) (by simp;omega) (by simp) A0) A0 (A6 (r5 A0 (.buf _ _ _ _ _)) A0 (A4 A0 A0 (A5 ?_)))))))
 obtain ⟨q,hq⟩:∃q,q=p++[(⟨m,n⟩:Span)]:=⟨_,rfl⟩
 have hql:q.length=p.length+1:=by rw [hq];simp
 have hqb:∀s∈q,-1099511627776≤s.From∧s.From≤1099511627776 ∧ -1099511627776≤s.To∧s.To≤1099511627776:=by
  intro s hs
  rw [hq] at hs
  rcases List.mem_append.1 hs with h | h
  ·exact hb s h
  ·simp at h;subst h;exact ⟨hm.1,hm.2,hn.1,hn.2⟩
 have hres:F45 p m n=A91 0 0 q:=by rw [hq,E27];rfl
 rw [←hq]
 refine k1 (k3 (D2 (X:=Nat × Int × Int × List Change) (fun x=>([(7,.s (.one (.buf 7 Change 4 changeC x.2.2.2))),(8,C7 x.2.1),(9,C7 x.2.2.1),(18,.s (.one (.buf 18 Span 2 spanC q))),(19,C7 q.length),(20,C7 x.1)],[(7,.spare x.2.2.2.length 4 77)])) (fun x=>x.1≤q.length∧x.2.2.2++A91 x.2.1 x.2.2.1 (q.drop x.1)=F45 p m n∧(-1099511627777≤x.2.1∧x.2.1≤1099511627777)∧(-1099511627777≤x.2.2.1∧x.2.2.1≤1099511627777)∧x.2.2.2.length≤x.1) (fun x=>q.length - x.1) (0,0,0,[]) ⟨Nat.zero_le _,hres.symm,by decide,by decide,Nat.le_refl _⟩ (Sees.of ⟨le1 rfl,le1 rfl,le1 rfl,le1 rfl,le1 rfl,le1 rfl,trivial⟩ ⟨rfl,trivial⟩) ?_))
 rintro ⟨k,i,j,out⟩ ⟨hk,he,hi,hj,hol⟩
 dsimp only at hk he hi hj hol ⊢
 refine k2 (A3 (F7 A0 A0 A0 (A5 ?_)));refine k1 (k2 ?_);refine B1 rfl (fun ht=>?_) (fun ht=>?_)
 ·have hlt:k < q.length:=by have:=A1 ht;omega
  have hv:q[k]?=some q[k]:=by simp [hlt]
  have hbk:=hqb _ (L05 hlt)
  obtain ⟨c,hc⟩:∃c,c=q[k]:=⟨_,rfl⟩
  rw [L11 hlt,A91] at he
  rw [←hc] at hv he hbk
  refine k5 (k1 (k2 (k3 (k2 (A3 (A6 (B6 A0 (.buf _ _ _ _ _) A0 (by omega) hv) A0 (A6 (E1 A0 A0) A0 (D1 (J1 11 A0) A0 (G1 (B9 TySz.out A0 A0 A0 A0 A0 A0) (A5 ?_))))))))));refine V4 ?_
  obtain ⟨out',hout'⟩:∃out',out'=out++(if c.From > i∨c.To > j then [⟨i,c.From - i,j,c.To - j⟩] else []):=⟨_,rfl⟩
  have hol':out'.length≤k+1:=by rw [hout',L06];split<;>simp<;>omega
  rw [←L15,←hout'] at he
  refine G61 [(7,.s (.one (.buf 7 Change 4 changeC out'))),(8,C7 i),(9,C7 j),(11,.s (.one (.ref 11 0))),(18,.s (.one (.buf 18 Span 2 spanC q))),(19,C7 q.length),(20,C7 k)] [(7,.spare out'.length 4 77),(11,.box [.p (.v (.int .i64 c.From)),.p (.v (.int .i64 c.To))])] ?_ ?_
  ·refine k2 (A3 (A6 (B0 A0) A0 (G3 A0 A0 A0 A0 (A4 A0 A0 (A6 (O1 A0 A0) A0 (A4 A0 A0 (B5 A0 A0 A0 A0 (fun hg=>by rw [hg];exact B0 A0) ?_)))))));refine B5 A0 A0 A0 A0 (fun hg=>by rw [hg];exact C5 A0 A0 A0) ?_;refine B5 A0 A0 A0 A0 (fun hg=>by rw [hg];exact C2 A0 A0) ?_;refine B5 A0 A0 A0 A0 (fun hg=>by rw [hg];exact O1 A0 A0) ?_;refine K7 A0 A0 ?_;refine A5 ?_;refine k1 ?_;refine B1 rfl (fun ht=>?_) (fun ht=>?_)
   ·simp only [or_pick] at ht
    have h1:=A1 ht
    rw [if_pos h1] at hout'
    skip
    refine A3 (A4 A0 A0 (A4 A0 A0 (A6 (B0 A0) A0 (G3 A0 A0 A0 A0 (A4 A0 A0 (A6 (N1 A0 A0 (by omega)) A0 (A4 A0 A0 (A6 (B0 A0) A0 (G3 A0 A0 A0 A0 (A4 A0 A0 (A6 (N1 A0 A0 (by omega)) A0 (A6 (K0 A0) A0 (A6 (D7 (c:=changeC) (ys:=[⟨i,c.From - i,j,c.To - j⟩]) (G6 A0 A0 A0 A0 I0) A0 A0 A0) A0 (D1 (P0 A0 A0 A0 (.pure _ _ _ _) (by (simp only [L04,L09];omega)) A0) A0 (A7 A0 A0 (A5 ?_))))))))))))))));refine k1 ?_
    rw [hout']
    exact Sees.of ⟨le1 rfl,le1 rfl,le1 rfl,le1 rfl,le1 rfl,le1 rfl,le1 rfl,trivial⟩ ⟨rfl,rfl,trivial⟩
   ·simp only [or_pick] at ht
    have h1:=A2 ht
    rw [if_neg h1,L29] at hout'
    refine k5 (k1 ?_)
    rw [hout']
    exact Sees.of ⟨le1 rfl,le1 rfl,le1 rfl,le1 rfl,le1 rfl,le1 rfl,le1 rfl,trivial⟩ ⟨rfl,rfl,trivial⟩
  ·skip
   refine E7 (by kernel_rfl) (by kernel_rfl) (B7 (B0 A0) A0 A0 (B7 (C5 A0 A0 A0) A0 A0 (B7 (l6 A0 A0 (by omega)) A0 A0 (B7 (B0 A0) A0 A0 (B7 (C5 A0 A0 A0) A0 A0 (B7 (l6 A0 A0 (by omega)) A0 A0 (B7 (H5 A0 A0) A0 A0 (B7 (H5 A0 A0) A0 A0 (Q6 ?_)))))))));refine k4 (k1 (A3 (E3 A0 A0 A0 (A4 A0 A0 (A5 ?_)))));refine k1 ?_
   exact ⟨(k+1,c.From+1,c.To+1,out'),⟨by dsimp only;omega,he,⟨by dsimp only;omega,by dsimp only;omega⟩,⟨by dsimp only;omega,by dsimp only;omega⟩,by dsimp only;omega⟩,by dsimp only;omega,Sees.of ⟨le1 rfl,le1 rfl,le1 rfl,le1 rfl,le1 rfl,le1 rfl,trivial⟩ ⟨rfl,trivial⟩⟩
 ·have hk':k=q.length:=by have:=A2 ht;omega
  rw [hk',L21 (Nat.le_refl _),A91,L29] at he
  refine k6 (k2 (A3 (A4 A0 A0 (A7 A0 A0 (A5 ?_)))));refine k1 (k10 ?_)
  exact B8 (I1 rfl rfl rfl) (by rw [←he])
theorem H83 {m n:Int}:∀{p:List Span} {i j:Int},Asc m n i j p→∀k (h:k < p.length),(k=0→i≤p[k].From∧j≤p[k].To)∧(∀h0:0 < k,p[k - 1].From < p[k].From∧p[k - 1].To < p[k].To)∧p[k].From < m∧p[k].To < n
 | [],_,_,_,k,h=>by simp at h
 | x::r,i,j,ha,k,h=>by
  obtain ⟨h1,h2,h3⟩:=ha
  cases k with
  | zero=>have:=h3.le;exact ⟨fun _=>⟨h1,h2⟩,fun h0=>absurd h0 (by omega),by show x.From < m;omega,by show x.To < n;omega⟩
  | succ k =>
   obtain ⟨g1,g2,g3,g4⟩:=H83 h3 k (by simpa using h)
   refine ⟨fun h0=>absurd h0 (by omega),fun _=>?_,by simpa using g3,by simpa using g4⟩
   cases k with
   | zero =>
    obtain ⟨q1,q2⟩:=g1 rfl
    have hr:0 < r.length:=by simpa using h
    show x.From < r[0].From∧x.To < r[0].To
    omega
   | succ k=>simpa using g2 (by omega)
theorem F89 (p:List Span) (m n:Int) (hm:P8 m) (hn:P8 n) (ha:Asc m n 0 0 p) (hp:p.length≤536870912) :
  FnOk Tryz.prog 61 [pSpans p,E2 m,E2 n] (fun rs=>rs=[pChanges (F45 p m n),E2 0]):=by
 obtain ⟨hm1,hm2⟩:=hm
 obtain ⟨hn1,hn2⟩:=hn
 have hst:=H83 ha
 have hb:∀s∈p,0≤s.From∧s.From≤4096∧0≤s.To∧s.To≤4096:=by
  have key:∀(p:List Span) (i j:Int),Asc m n i j p→0≤i→0≤j→∀s∈p,0≤s.From∧s.From≤4096∧0≤s.To∧s.To≤4096:=by
   intro p
   induction p with
   | nil=>intro _ _ _ _ _ s hs;simp at hs
   | cons x r ih =>
    rintro i j ⟨h1,h2,h3⟩ h4 h5 s hs
    have:=h3.le
    rcases List.mem_cons.1 hs with rfl | hs
    ·omega
    ·exact ih _ _ h3 (by omega) (by omega) s hs
  exact key p 0 0 ha (by omega) (by omega)
 refine FnOk.intro Tryz.func61 (by decide) A0 A0 A0 A0 ?_
 refine k2 (A3 (A7 A0 A0 (A7 A0 A0 (A5 ?_))));refine k1 (k2 (k2 (A3 (A4 A0 A0 (C9 (F23 m) A0 A0 A0 ?_)))));rintro _ rfl;refine A6 (S2 A0) A0 (A4 A0 A0 (B5 A0 A0 A0 A0 (fun hg=>by rw [hg];exact C2 A0 A0) ?_));refine B5 A0 A0 A0 A0 (fun hg=>by have hq:=hg;(try simp at hq);rw [hg];exact O7 (F23 n) A0 A0) ?_;refine B5 A0 A0 A0 A0 (fun hg=>by rw [hg];exact S2 A0) ?_;refine K7 A0 A0 ?_;refine A5 ?_;refine k1 ?_;refine B1 rfl (fun ht=>?_) (fun ht=>?_)
 ·exfalso
  simp only [←decide_not,or_pick] at ht
  have h:¬P8 m∨¬P8 n:=A1 ht
  rcases h with h | h
  ·exact h ⟨hm1,hm2⟩
  ·exact h ⟨hn1,hn2⟩
 refine A80 [(0,D6 Span 2 spanC p),(1,C7 m),(2,C7 n)] [] (Sees.of ⟨le1 rfl,le1 rfl,le1 rfl,trivial⟩ trivial) ?_
 refine k5 (k1 (k2 (A3 (A6 (K0 A0) A0 (D1 (J1 8 A0) A0 (G1 (B9 TySz.out A0 A0 A0 A0 A0 A0) (A5 ?_)))))));refine k1 (k2 (k2 (A3 (A4 A0 A0 (F4 A0 A0 (A4 A0 A0 (A5 ?_)))))));refine k1 (k3 ?_)
 obtain ⟨lastOf,hlast⟩:∃lastOf:Nat→Span,lastOf=fun k=>if k=0 then ⟨-1,-1⟩ else p.getD (k - 1) ⟨0,0⟩:=⟨_,rfl⟩
 refine D2 (X:=Nat) (fun k=>([(0,D6 Span 2 spanC p),(1,C7 m),(2,C7 n),(8,.s (.one (.ref 8 0))),(20,D6 Span 2 spanC p),(21,C7 p.length),(22,C7 k)],[(8,.box [.p (.v (.int .i64 (lastOf k).From)),.p (.v (.int .i64 (lastOf k).To))])])) (fun k=>k≤p.length) (fun k=>p.length - k) 0 (Nat.zero_le _) ?_ ?_
 ·rw [show lastOf 0=⟨-1,-1⟩ by rw [hlast];rfl]
  exact Sees.of ⟨le1 rfl,le1 rfl,le1 rfl,le1 rfl,le1 rfl,le1 rfl,le1 rfl,trivial⟩ ⟨rfl,trivial⟩
 intro k hk
 dsimp only at hk ⊢
 refine k2 (A3 (F7 A0 A0 A0 (A5 ?_)));refine k1 (k2 ?_);refine B1 rfl (fun ht=>?_) (fun ht=>?_)
 ·have hlt:k < p.length:=by have:=A1 ht;omega
  have hv:p[k]?=some p[k]:=by simp [hlt]
  obtain ⟨g1,g2,g3,g4⟩:=hst k hlt
  have hnext:lastOf (k+1)=p[k]:=by rw [hlast];simp [hlt]
  have hless:(lastOf k).From < p[k].From∧(lastOf k).To < p[k].To:=by
   rw [hlast]
   by_cases h0:k=0
   ·have:=g1 h0
    simp only [h0,if_true] at this ⊢
    omega
   ·have:=g2 (by omega)
    simp only [h0,if_false]
    have e:p.getD (k - 1) ⟨0,0⟩=p[k - 1]:=by simp [show k - 1 < p.length by omega]
    rw [e];exact this
  obtain ⟨c,hc⟩:∃c,c=p[k]:=⟨_,rfl⟩
  rw [←hc] at hv g3 g4 hnext hless
  obtain ⟨la,hla⟩:∃la,la=lastOf k:=⟨_,rfl⟩
  rw [←hla] at hless ⊢
  refine k5 (k1 (k2 (k3 (k2 (A3 (A6 (B6 A0 (.pure _ _ _ _) A0 (by omega) hv) A0 (A6 (E1 A0 A0) A0 (D1 (J1 10 A0) A0 (G1 (B9 TySz.out A0 A0 A0 A0 A0 A0) (A5 ?_))))))))));refine k1 (k2 (k2 (A3 (A6 (B0 A0) A0 (G3 A0 A0 A0 A0 (A6 (B0 A0) A0 (G3 A0 A0 A0 A0 (A6 (B81 A0 A0) A0 (A4 A0 A0 (B5 A0 A0 A0 A0 (fun hg=>by rw [hg];exact B0 A0) ?_))))))))));refine B5 A0 A0 A0 A0 (fun hg=>by rw [hg];exact C5 A0 A0 A0) ?_;refine B5 A0 A0 A0 A0 (fun hg=>by rw [hg];exact C2 A0 A0) ?_;refine B5 A0 A0 A0 A0 (fun hg=>by rw [hg];exact V2 A0 A0) ?_;refine K7 A0 A0 ?_;refine A4 A0 A0 (B5 A0 A0 A0 A0 (fun hg=>by rw [hg];exact B0 A0) ?_);refine B5 A0 A0 A0 A0 (fun hg=>by rw [hg];exact C5 A0 A0 A0) ?_;refine B5 A0 A0 A0 A0 (fun hg=>by rw [hg];exact B0 A0) ?_;refine B5 A0 A0 A0 A0 (fun hg=>by rw [hg];exact C5 A0 A0 A0) ?_;refine B5 A0 A0 A0 A0 (fun hg=>by rw [hg];exact B81 A0 A0) ?_;refine K7 A0 A0 ?_;refine A4 A0 A0 (B5 A0 A0 A0 A0 (fun hg=>by rw [hg];exact B0 A0) ?_);refine B5 A0 A0 A0 A0 (fun hg=>by rw [hg];exact C5 A0 A0 A0) ?_;refine B5 A0 A0 A0 A0 (fun hg=>by rw [hg];exact C2 A0 A0) ?_;refine B5 A0 A0 A0 A0 (fun hg=>by rw [hg];exact V2 A0 A0) ?_;refine K7 A0 A0 ?_;refine A5 ?_;refine k1 ?_;refine B1 rfl (fun ht=>?_) (fun ht=>?_)
  ·exfalso
   simp only [or_pick] at ht
   have:=A1 ht
   omega
  ·refine k5 (k1 (A3 (A6 (J5 A0 A0 A0) A0 (G1 (B9 TySz.out A0 A0 A0 A0 A0 A0) (A5 ?_)))));refine k4 (k1 (A3 (E3 A0 A0 A0 (A4 A0 A0 (A5 ?_)))));refine k1 ?_;refine ⟨k+1,by omega,by omega,?_⟩
   rw [hnext]
   exact Sees.of ⟨le1 rfl,le1 rfl,le1 rfl,le1 rfl,le1 rfl,le1 rfl,le1 rfl,trivial⟩ ⟨rfl,trivial⟩
 ·refine k6 (k2 (A3 (A4 A0 A0 (A4 A0 A0 (A4 A0 A0 (C9 (F88 p m n hp (by omega) (by omega) (fun s hs=>by have:=hb s hs;omega)) A0 A0 A0 ?_))))));rintro _ rfl;refine A7 A0 A0 (A7 A0 A0 (A5 ?_));refine k1 (k10 ?_)
  exact B8 (a6 rfl rfl rfl rfl rfl) rfl
theorem D39 {l:List Int} {i:Nat} (h:i < l.length):l[i]?=some (l.getD i 0):=by simp [h]
theorem H84 (a b:List Int):FnOk Tryz.prog 60 [K9 a,K9 b] (fun rs=>rs=[H1 (decide ((a.length:Int)≤4096∧(b.length:Int)≤4096))]):=by
 refine FnOk.intro Tryz.func60 (by decide) A0 A0 A0 A0 ?_
 refine k2 (A3 (A7 A0 A0 (A5 ?_)));refine k1 (k2 (A3 (A4 A0 A0 (F4 A0 A0 (A6 (B81 A0 A0) A0 (A4 A0 A0 (B5 A0 A0 A0 A0 (fun hg=>by rw [hg];exact C2 A0 A0) ?_)))))));refine B5 A0 A0 A0 A0 (fun hg=>by rw [hg];exact r5 A0 (.pure _ _ _ _)) ?_;refine B5 A0 A0 A0 A0 (fun hg=>by rw [hg];exact B81 A0 A0) ?_;refine K7 A0 A0 ?_;refine A7 A0 A0 (A5 ?_);refine k1 (k10 ?_)
 exact B8 (I1 rfl rfl rfl) (by simp only [and_pick])
theorem F90 (a b:List Int) (ha:a.length≤1073741824):FnOk Tryz.prog 92 [K9 a,K9 b] (fun rs=>rs=[E2 (Y6 a b)]):=by
 refine FnOk.intro Tryz.func92 (by decide) A0 A0 A0 A0 ?_
 refine k2 (A3 (A7 A0 A0 (A5 ?_)));refine k1 (k2 (A3 (A7 A0 A0 (A5 ?_))));refine k1 (k2 (k3 (D2 (X:=Nat) (fun k=>([(0,D6 Int 1 F2 a),(1,D6 Int 1 F2 b),(5,C7 k)],[])) (fun k=>k≤a.length∧k≤b.length∧Y6 a b=k+Y6 (a.drop k) (b.drop k)) (fun k=>a.length - k) 0 ⟨Nat.zero_le _,Nat.zero_le _,by simp⟩ (Sees.of ⟨le1 rfl,le1 rfl,le1 rfl,trivial⟩ trivial) ?_)))
 rintro k ⟨hk,hk2,he⟩
 dsimp only at hk hk2 he ⊢
 refine k2 (k2 (E7 (by kernel_rfl) (by kernel_rfl) (E9 A0 A0 (E9 A0 A0 (B7 (r5 A0 (.pure _ _ _ _)) A0 A0 (B7 (A75 A0 A0) A0 A0 (E9 A0 A0 (F6 A0 A0 (fun hg=>by rw [hg];exact C2 A0 A0) A0 A0 ?_))))))));refine F6 A0 A0 (fun hg=>by rw [hg];exact C2 A0 A0) A0 A0 ?_;refine F6 A0 A0 (fun hg=>by rw [hg];exact r5 A0 (.pure _ _ _ _)) A0 A0 ?_;refine F6 A0 A0 (fun hg=>by rw [hg];exact A75 A0 A0) A0 A0 ?_;refine B7 (L8 A0 (fun h=>by first | rfl | (rw [h];rfl)) (fun h=>by first | rfl | (rw [h];rfl))) A0 A0 ?_;refine E9 A0 A0 (F6 A0 A0 (fun hg=>by rw [hg];exact C2 A0 A0) A0 A0 ?_);refine F6 A0 A0 (fun hg=>by rw [hg];exact C2 A0 A0) A0 A0 ?_;refine F6 A0 A0 (fun hg=>by have hq:=hg;(try simp at hq);rw [hg];exact B6 A0 (.pure _ _ _ _) A0 (by omega) (D39 (by omega))) A0 A0 ?_;refine F6 A0 A0 (fun hg=>by rw [hg];exact B3 A0 A0) A0 A0 ?_;refine F6 A0 A0 (fun hg=>by rw [hg];exact C2 A0 A0) A0 A0 ?_;refine F6 A0 A0 (fun hg=>by rw [hg];exact C2 A0 A0) A0 A0 ?_;refine F6 A0 A0 (fun hg=>by have hq:=hg;(try simp at hq);rw [hg];exact B6 A0 (.pure _ _ _ _) A0 (by omega) (D39 (by omega))) A0 A0 ?_;refine F6 A0 A0 (fun hg=>by rw [hg];exact B3 A0 A0) A0 A0 ?_;refine F6 A0 A0 (fun hg=>by rw [hg];exact H0 A0 A0) A0 A0 ?_;refine B7 (L8 A0 (fun h=>by first | rfl | (rw [h];rfl)) (fun h=>by first | rfl | (rw [h];rfl))) A0 A0 ?_;refine Q6 ?_;refine k1 ?_;refine B1 rfl (fun ht=>?_) (fun ht=>?_)
 ·simp only [and_pick] at ht
  obtain ⟨⟨h1,h2⟩,h3⟩:=A1 ht
  have h1:k < a.length:=by omega
  have h2:k < b.length:=by omega
  rw [F55 a b k h1 h2,if_pos (by simpa [h1,h2] using h3)] at he
  refine k5 (k1 (k3 (A3 (A4 A0 A0 (E3 A0 A0 A0 (A7 A0 A0 (A5 ?_)))))));refine k4 (k1 ?_)
  exact ⟨k+1,⟨by omega,by omega,by omega⟩,by omega,Sees.of ⟨le1 rfl,le1 rfl,le1 rfl,trivial⟩ trivial⟩
 ·simp only [and_pick] at ht
  have h:=A2 ht
  have h0:Y6 (a.drop k) (b.drop k)=0:=by
   by_cases hc:k < a.length∧k < b.length
   ·obtain ⟨h1,h2⟩:=hc
    rw [F55 a b k h1 h2,if_neg]
    intro h3
    exact h ⟨⟨by omega,by omega⟩,by simpa [h1,h2] using h3⟩
   ·exact K13 a b k hc
  rw [h0] at he
  refine k6 (k2 (A3 (A4 A0 A0 (A7 A0 A0 (A5 ?_)))));refine k1 (k10 ?_)
  exact B8 (I1 rfl rfl rfl) (by rw [he];rfl)
theorem F91 (a b:List Int) (ha:a.length≤4096) (hb:b.length≤4096):FnOk Tryz.prog 93 [K9 a,K9 b] (fun rs=>rs=[pU16s (flat a b (fun _ _=>true))]):=by
 obtain ⟨W,hW⟩:∃W,W=b.length+1:=⟨_,rfl⟩
 have hmul:∀i:Nat,i≤a.length+1→0≤(i:Int)*(W:Int)∧(i:Int)*(W:Int)≤16789506:=by
  intro i hi
  have h1:i*W≤4098*4097:=Nat.mul_le_mul (by omega) (by omega)
  have h2:((i*W:Nat):Int)=(i:Int)*W:=by push_cast;rfl
  omega
 have hcast:∀i:Nat,(i:Int)*(W:Int)=((i*W:Nat):Int):=fun i=>by push_cast;rfl
 have hlen:∀done,(flat a b done).length=(a.length+1)*W:=fun done=>by rw [E42,hW]
 have hdl:∀i j,dist (a.drop i) (b.drop j)≤8192:=fun i j=>by
  have:=H14 (a.drop i) (b.drop j)
  simp only [L12] at this
  omega
 have hin:∀i j:Nat,i≤a.length→j≤b.length→i*W+j < (a.length+1)*W:=fun i j hi hj=>by rw [hW];exact (E71 hi hj).1
 refine FnOk.intro Tryz.func93 (by decide) A0 A0 A0 A0 ?_
 refine k2 (A3 (A7 A0 A0 (A5 ?_)));refine k1 (k2 (A3 (A4 A0 A0 (F4 A0 A0 (E3 A0 A0 A0 (A7 A0 A0 (A5 ?_)))))));refine V4 ?_
 refine A80 [(0,D6 Int 1 F2 a),(1,D6 Int 1 F2 b),(5,C7 W)] [] (Sees.of ⟨⟨_,rfl,.same _⟩,⟨_,rfl,.same _⟩,⟨_,rfl,.eq (by rw [hW];simp)⟩,trivial⟩ trivial) ?_
 have hm1:=hmul (a.length+1) (Nat.le_refl _)
 have e1:((a.length:Int)+1)=((a.length+1:Nat):Int):=by omega
 refine k2 (A3 (A4 A0 A0 (F4 A0 A0 (E3 A0 A0 A0 (A4 A0 A0 (A6 (B80 A0 A0 (by (rw [e1];omega))) A0 ?_))))));refine D1 (A00 20 Int D12 0 A0 A0 (by (rw [e1];omega)) (by (rw [e1];omega)) (fun _=>by first | exact ⟨⟨rfl,rfl⟩,trivial⟩ | exact ⟨I4 _ _ _,trivial⟩ | exact ⟨I4 _ _ _,⟨rfl,rfl⟩,I4 _ _ _,trivial⟩) A0) A0 ?_;refine A7 A0 A0 (A5 ?_);refine V4 ?_
 refine A80 [(0,D6 Int 1 F2 a),(1,D6 Int 1 F2 b),(5,C7 W),(6,.s (.one (.mut 20)))] [(20,.arr Int 1 D12 (flat a b (fun _ _=>false)))] ?_ ?_
 ·refine Sees.of ⟨⟨_,rfl,.same _⟩,⟨_,rfl,.same _⟩,⟨_,rfl,.same _⟩,⟨_,rfl,.same _⟩,trivial⟩ ⟨?_,trivial⟩
  rw [←K12,e1,hcast,L03,hW];rfl
 refine k2 (k2 (A3 (A4 A0 A0 (F4 A0 A0 (A4 A0 A0 (A5 ?_))))));refine k1 (k3 ?_);refine D2 (X:=Nat) (fun j=>([(0,D6 Int 1 F2 a),(1,D6 Int 1 F2 b),(5,C7 W),(6,.s (.one (.mut 20))),(22,C7 b.length),(23,C7 j)],[(20,.arr Int 1 D12 (flat a b (fun r q=>decide (r=a.length∧q < j))))])) (fun j=>j≤b.length) (fun j=>b.length - j) 0 (Nat.zero_le _) ?_ ?_
 ·rw [show flat a b (fun r q=>decide (r=a.length∧q < 0))=flat a b (fun _ _=>false) from B72 fun r q _ _=>.inl (by simp)]
  exact Sees.of ⟨le1 rfl,le1 rfl,le1 rfl,le1 rfl,le1 rfl,le1 rfl,trivial⟩ ⟨rfl,trivial⟩
 intro j hj
 dsimp only at hj ⊢
 refine k2 (A3 (F7 A0 A0 A0 (A5 ?_)));refine k1 (k2 ?_);refine B1 rfl (fun ht=>?_) (fun ht=>?_)
 ·have hlt:j < b.length:=by have:=A1 ht;omega
  have hmm:=hmul a.length (by omega)
  have hix:=hin a.length j (Nat.le_refl _) (by omega)
  have hc1:=hcast a.length
  have hL:=hlen (fun r q=>decide (r=a.length∧q < j))
  have hst:(flat a b (fun r q=>decide (r=a.length∧q < j))).set (((a.length:Int)*(W:Int)+(j:Int)).toNat) (IntKind.u16.wrap ((b.length:Int) - j))=flat a b (fun r q=>decide (r=a.length∧q < j+1)):=by
   rw [show ((a.length:Int)*(W:Int)+(j:Int)).toNat=a.length*(b.length+1)+j by rw [hc1,hW];omega,J08 _ (by omega)]
   refine I15 (Nat.le_refl _) (by omega) ?_ (by simp) (fun r q hr hq hne=>?_)
   ·rw [L21 (Nat.le_refl a.length),dist,L12];omega
   ·rw [decide_eq_decide];omega
  refine k5 (k1 (k2 (k3 (k2 (A3 (A4 A0 A0 (A7 A0 A0 (A5 ?_))))))));refine k1 (A3 (A4 A0 A0 (A4 A0 A0 (F4 A0 A0 (A4 A0 A0 (A6 (B80 A0 A0 (by omega)) A0 (A4 A0 A0 (E3 A0 A0 A0 (A4 A0 A0 (F4 A0 A0 (A4 A0 A0 (A6 (N1 A0 A0 (by omega)) A0 (A6 (j3 A0) A0 (A6 (F9 A0 A0 A0 (by omega) (by (rw [hL];omega))) A0 ?_))))))))))))));refine G1 (L3 TySz.out A0 A0 (by (rw [hL];omega)) A0 A0) ?_;refine A5 ?_;refine k4 (k1 (A3 (E3 A0 A0 A0 (A4 A0 A0 (A5 ?_)))));refine k1 ?_;refine ⟨j+1,by omega,by omega,?_⟩
  rw [←hst]
  exact Sees.of ⟨le1 rfl,le1 rfl,le1 rfl,le1 rfl,le1 rfl,le1 rfl,trivial⟩ ⟨rfl,trivial⟩
 ·have hj':j=b.length:=by have:=A2 ht;omega
  subst hj'
  rw [show flat a b (fun r q=>decide (r=a.length∧q < b.length))=flat a b (fun r _=>decide (a.length≤r)) from B72 fun r q hr hq=>by
   by_cases h:r=a.length∧q=b.length
   ·right;rw [h.1,h.2,L21 (Nat.le_refl _),L21 (Nat.le_refl _)];exact D52 []
   ·left;rw [decide_eq_decide];omega]
  refine k6 (k2 (k2 (A3 (A4 A0 A0 (F4 A0 A0 (A6 (N1 A0 A0 (by omega)) A0 (A7 A0 A0 (A5 ?_))))))));refine k1 (k3 (D2 (X:=Nat) (fun i=>([(0,D6 Int 1 F2 a),(1,D6 Int 1 F2 b),(5,C7 W),(6,.s (.one (.mut 20))),(8,C7 ((i:Int) - 1))],[(20,.arr Int 1 D12 (flat a b (fun r _=>decide (i≤r))))])) (fun i=>i≤a.length) (fun i=>i) a.length (Nat.le_refl _) (Sees.of ⟨le1 rfl,le1 rfl,le1 rfl,le1 rfl,le1 rfl,trivial⟩ ⟨rfl,trivial⟩) ?_))
  intro i hi
  dsimp only at hi ⊢
  refine k2 (k2 (A3 (A4 A0 A0 (A6 (V2 A0 A0) A0 (A5 ?_)))));refine k1 ?_;refine B1 rfl (fun ht=>?_) (fun ht=>?_)
  ·obtain ⟨i,rfl⟩:∃r,i=r+1:=⟨i - 1,by have:=A1 ht;omega⟩
   refine A80 [(0,D6 Int 1 F2 a),(1,D6 Int 1 F2 b),(5,C7 W),(6,.s (.one (.mut 20))),(8,C7 i)] [(20,.arr Int 1 D12 (flat a b (fun r _=>decide (i+1≤r))))] (Sees.of ⟨le1 rfl,le1 rfl,le1 rfl,le1 rfl,leE A0 (by first | (simp;done) | (simp;omega)),trivial⟩ ⟨rfl,trivial⟩) ?_
   obtain ⟨P,hP⟩:∃P,P=i*W:=⟨_,rfl⟩
   obtain ⟨N,hN⟩:∃N,N=(a.length+1)*W:=⟨_,rfl⟩
   have c0:(i:Int)*(W:Int)=(P:Int):=by rw [hP];exact hcast i
   have c1:((i:Int)+1)*(W:Int)=(P:Int)+W:=by rw [Int.add_mul,Int.one_mul,c0]
   have c2:((i:Int)+2)*(W:Int)=(P:Int)+W+W:=by rw [Int.add_mul,c0];omega
   have hPN:P+W+W≤N:=by
    have h1:(i+2)*W≤(a.length+1)*W:=L13 _ (by omega)
    have h2:(i+2)*W=i*W+W+W:=by rw [L22];omega
    omega
   have hN2:N≤16789506:=by have:=hmul (a.length+1) (Nat.le_refl _);have:=hcast (a.length+1);omega
   have hL:∀done,(flat a b done).length=N:=fun done=>by rw [hlen,hN]
   refine k5 (k1 (k2 (k3 (k2 (E7 (by kernel_rfl) (by kernel_rfl) (E9 A0 A0 (E9 A0 A0 (E9 A0 A0 (B7 (B80 A0 A0 (by (rw [c0];omega))) A0 A0 ?_)))))))));refine E9 A0 A0 (B7 (l6 A0 A0 (by omega)) A0 A0 (E9 A0 A0 (B7 (B80 A0 A0 (by (rw [c1];omega))) A0 A0 ?_)));refine B7 (C01 A0 A0 A0 A0 (by (first | (rw [c0];omega) | (rw [c0,c1];omega) | (rw [c1,hL];omega))) (by (first | (rw [c0];omega) | (rw [c0,c1];omega) | (rw [c1,hL];omega))) (by (first | (rw [c0];omega) | (rw [c0,c1];omega) | (rw [c1,hL];omega)))) A0 A0 ?_;refine E9 A0 A0 (E9 A0 A0 (B7 (l6 A0 A0 (by omega)) A0 A0 (E9 A0 A0 (B7 (B80 A0 A0 (by (rw [c1];omega))) A0 A0 ?_))));refine E9 A0 A0 (B7 (l6 A0 A0 (by omega)) A0 A0 (E9 A0 A0 (B7 (B80 A0 A0 (by (rw [c2];omega))) A0 A0 ?_)));refine B7 (C01 A0 A0 A0 A0 (by (first | (rw [c1];omega) | (rw [c1,c2];omega) | (rw [c2,hL];omega))) (by (first | (rw [c1];omega) | (rw [c1,c2];omega) | (rw [c2,hL];omega))) (by (first | (rw [c1];omega) | (rw [c1,c2];omega) | (rw [c2,hL];omega)))) A0 A0 ?_;refine B7 (H5 A0 A0) A0 A0 (B7 (H5 A0 A0) A0 A0 (Q6 ?_));refine V4 ?_
   have hdone:∀j,j≤b.length→(flat a b (fun r q=>decide (i+1≤r∨(r=i∧j≤q))))[P+j]?=some (dist (a.drop i) (b.drop j):Int):=fun j hj=>by
    rw [hP,hW,F54 (by omega) hj,if_pos (by simp)]
   have hbelow:∀j j',j≤b.length→(flat a b (fun r q=>decide (i+1≤r∨(r=i∧j'≤q))))[P+W+j]?=some (dist (a.drop (i+1)) (b.drop j):Int):=fun j j' hj=>by
    rw [show P+W+j=(i+1)*(b.length+1)+j by rw [hP,hW,L22];omega,F54 (by omega) hj,if_pos (by simp)]
   refine A80 [(0,D6 Int 1 F2 a),(1,D6 Int 1 F2 b),(5,C7 W),(6,.s (.one (.mut 20))),(8,C7 i),(9,.s (.one (.msl 20 1 P W))),(10,.s (.one (.msl 20 1 (P+W) W)))] [(20,.arr Int 1 D12 (flat a b (fun r _=>decide (i+1≤r))))] ?_ ?_
   ·refine Sees.of ⟨⟨_,rfl,.same _⟩,⟨_,rfl,.same _⟩,⟨_,rfl,.same _⟩,⟨_,rfl,.same _⟩,⟨_,rfl,.same _⟩,⟨_,rfl,.eq ?_⟩,⟨_,rfl,.eq ?_⟩,trivial⟩ ⟨rfl,trivial⟩
    ·rw [c0,c1];congr 3<;>omega
    ·rw [c1,c2];congr 3<;>omega
   have hset:∀(done done':Nat→Nat→Bool) (j:Nat) (v:Int),j≤b.length→v=(dist (a.drop i) (b.drop j):Int)→done' i j=true→(∀r q,r≤a.length→q≤b.length→¬(r=i∧q=j)→done' r q=done r q)→(flat a b done).set (P+j) v=flat a b done':=by
    intro done done' j v hj hv h1 h2
    rw [hP,hW];exact I15 (by omega) hj hv h1 h2
   have hs0:(flat a b (fun r _=>decide (i+1≤r))).set (P+((b.length:Nat):Int).toNat) (IntKind.u16.wrap ((a.length:Int) - i))=flat a b (fun r q=>decide (i+1≤r∨(r=i∧b.length≤q))):=by
    rw [L03,J08 _ (by omega)]
    refine hset _ _ _ _ (Nat.le_refl _) ?_ (by simp) (fun r q hr hq hne=>?_)
    ·rw [L21 (Nat.le_refl b.length),D52,L12];omega
    ·rw [decide_eq_decide];omega
   refine k2 (A3 (A4 A0 A0 (A4 A0 A0 (F4 A0 A0 (A4 A0 A0 (F4 A0 A0 (A4 A0 A0 (A6 (N1 A0 A0 (by omega)) A0 (A6 (j3 A0) A0 (A6 (U9 A0 A0 (by omega) (by omega)) A0 (G1 (L3 TySz.out A0 A0 (by (rw [hL];omega)) A0 A0) ?_)))))))))));refine A5 ?_
   rw [hs0]
   refine k1 (k2 (A3 (A4 A0 A0 (F4 A0 A0 (A6 (N1 A0 A0 (by omega)) A0 (A7 A0 A0 (A5 ?_)))))));refine k1 (k3 (D2 (X:=Nat) (fun j=>([(0,D6 Int 1 F2 a),(1,D6 Int 1 F2 b),(5,C7 W),(6,.s (.one (.mut 20))),(8,C7 i),(9,.s (.one (.msl 20 1 P W))),(10,.s (.one (.msl 20 1 (P+W) W))),(11,C7 ((j:Int) - 1))],[(20,.arr Int 1 D12 (flat a b (fun r q=>decide (i+1≤r∨(r=i∧j≤q)))))])) (fun j=>j≤b.length) (fun j=>j) b.length (Nat.le_refl _) (Sees.of ⟨le1 rfl,le1 rfl,le1 rfl,le1 rfl,le1 rfl,le1 rfl,le1 rfl,le1 rfl,trivial⟩ ⟨rfl,trivial⟩) ?_))
   intro j hj
   dsimp only at hj ⊢
   refine k2 (k2 (A3 (A4 A0 A0 (A6 (V2 A0 A0) A0 (A5 ?_)))));refine k1 ?_;refine B1 rfl (fun ht=>?_) (fun ht=>?_)
   ·obtain ⟨j,rfl⟩:∃r,j=r+1:=⟨j - 1,by have:=A1 ht;omega⟩
    have hva:a[i]?=some a[i]:=by simp [show i < a.length by omega]
    have hvb:b[j]?=some b[j]:=by simp [show j < b.length by omega]
    have hdd:=K10 a b i j (by omega) (by omega)
    have hd1:=hdl i j
    have hd2:=hdl (i+1) j
    have hd3:=hdl i (j+1)
    have hd4:=hdl (i+1) (j+1)
    obtain ⟨u,hu⟩:∃u,u=a[i]:=⟨_,rfl⟩
    obtain ⟨v,hv⟩:∃v,v=b[j]:=⟨_,rfl⟩
    rw [←hu] at hva hdd
    rw [←hv] at hvb hdd
    have hst:(flat a b (fun r q=>decide (i+1≤r∨(r=i∧j+1≤q)))).set (P+j) (dist (a.drop i) (b.drop j):Int)=flat a b (fun r q=>decide (i+1≤r∨(r=i∧j≤q))):=hset _ _ _ _ (by omega) rfl (by simp) (fun r q hr hq hne=>by rw [decide_eq_decide];omega)
    refine A80 [(0,D6 Int 1 F2 a),(1,D6 Int 1 F2 b),(5,C7 W),(6,.s (.one (.mut 20))),(8,C7 i),(9,.s (.one (.msl 20 1 P W))),(10,.s (.one (.msl 20 1 (P+W) W))),(11,C7 j)] [(20,.arr Int 1 D12 (flat a b (fun r q=>decide (i+1≤r∨(r=i∧j+1≤q)))))] (Sees.of ⟨le1 rfl,le1 rfl,le1 rfl,le1 rfl,le1 rfl,le1 rfl,le1 rfl,leE A0 (by first | (simp;done) | (simp;omega)),trivial⟩ ⟨rfl,trivial⟩) ?_
    refine c_skip ?_
    refine V4 ?_
    refine G61 [(0,D6 Int 1 F2 a),(1,D6 Int 1 F2 b),(5,C7 W),(6,.s (.one (.mut 20))),(8,C7 i),(9,.s (.one (.msl 20 1 P W))),(10,.s (.one (.msl 20 1 (P+W) W))),(11,C7 j)] [(20,.arr Int 1 D12 (flat a b (fun r q=>decide (i+1≤r∨(r=i∧j≤q)))))] ?_ ?_
    ·refine k3 (k2 (E7 (by kernel_rfl) (by kernel_rfl) (E9 A0 A0 (E9 A0 A0 (B7 (B6 A0 (.pure _ _ _ _) A0 (by omega) hva) A0 A0 (B7 (B3 A0 A0) A0 A0 (E9 A0 A0 (E9 A0 A0 (B7 (B6 A0 (.pure _ _ _ _) A0 (by omega) hvb) A0 A0 (B7 (B3 A0 A0) A0 A0 (B7 (H0 A0 A0) A0 A0 (Q6 ?_))))))))))));refine k1 ?_;refine B1 rfl (fun ht=>?_) (fun ht=>?_)
     ·rw [if_pos (A1 ht)] at hdd
      rw [hdd] at hst
      have hg:=hbelow (j+1) (j+1) (by omega)
      have hgi:(flat a b (fun r q=>decide (i+1≤r∨(r=i∧j+1≤q))))[P+W+((j:Int)+1).toNat]?=some (dist (a.drop (i+1)) (b.drop (j+1)):Int):=by rw [show ((j:Int)+1).toNat=j+1 by omega];exact hg
      skip
      refine A3 (A4 A0 A0 (A4 A0 A0 (A4 A0 A0 (A4 A0 A0 (E3 A0 A0 A0 (A6 (U9 A0 A0 (by omega) (by omega)) A0 (A6 (N8 A0 A0 hgi A0) A0 (A6 (U9 A0 A0 (by omega) (by omega)) A0 (G1 (L3 TySz.out A0 A0 (by (rw [hL];omega)) A0 A0) ?_)))))))));refine A5 ?_;refine k4 (k1 ?_)
      rw [show P+((j:Nat):Int).toNat=P+j by omega,hst]
      exact Sees.of ⟨le1 rfl,le1 rfl,le1 rfl,le1 rfl,le1 rfl,le1 rfl,le1 rfl,le1 rfl,trivial⟩ ⟨rfl,trivial⟩
     ·rw [if_neg (A2 ht)] at hdd
      have hg1:=hbelow j (j+1) (by omega)
      have hg2:=hdone (j+1) (by omega)
      have hgi1:(flat a b (fun r q=>decide (i+1≤r∨(r=i∧j+1≤q))))[P+W+((j:Nat):Int).toNat]?=some (dist (a.drop (i+1)) (b.drop j):Int):=by rw [L03];exact hg1
      have hgi2:(flat a b (fun r q=>decide (i+1≤r∨(r=i∧j+1≤q))))[P+((j:Int)+1).toNat]?=some (dist (a.drop i) (b.drop (j+1)):Int):=by rw [show ((j:Int)+1).toNat=j+1 by omega];exact hg2
      have hval:IntKind.u16.wrap ((if (dist (a.drop i) (b.drop (j+1)):Int) < (dist (a.drop (i+1)) (b.drop j):Int) then (dist (a.drop i) (b.drop (j+1)):Int) else (dist (a.drop (i+1)) (b.drop j):Int))+1)=(dist (a.drop i) (b.drop j):Int):=by
       rw [J08 _ (by split<;>omega),hdd];split<;>omega
      skip
      refine E7 (by kernel_rfl) (by kernel_rfl) (E9 A0 A0 (E9 A0 A0 (E9 A0 A0 (E9 A0 A0 (B7 (U9 A0 A0 (by omega) (by omega)) A0 A0 (B7 (N8 A0 A0 hgi1 A0) A0 A0 (E9 A0 A0 (E9 A0 A0 (B7 (l6 A0 A0 (by omega)) A0 A0 (B7 (U9 A0 A0 (by omega) (by omega)) A0 A0 (B7 (N8 A0 A0 hgi2 A0) A0 A0 (B7 (E85 A0 A0) A0 A0 (B7 (J25 A0 A0) A0 A0 (B7 (U9 A0 A0 (by omega) (by omega)) A0 A0 (d_eff (L3 TySz.out A0 A0 (by (rw [hL];omega)) A0 A0) A0 ?_)))))))))))))));refine Q6 ?_;refine k4 (k1 ?_)
      rw [hval,show P+((j:Nat):Int).toNat=P+j by omega,hst]
      exact Sees.of ⟨le1 rfl,le1 rfl,le1 rfl,le1 rfl,le1 rfl,le1 rfl,le1 rfl,le1 rfl,trivial⟩ ⟨rfl,trivial⟩
    ·skip
     refine A3 (A4 A0 A0 (A6 (N1 A0 A0 (by omega)) A0 (A7 A0 A0 (A5 ?_))));refine k1 ?_
     exact ⟨j,by omega,by omega,Sees.of ⟨le1 rfl,le1 rfl,le1 rfl,le1 rfl,le1 rfl,le1 rfl,le1 rfl,le1 rfl,trivial⟩ ⟨rfl,trivial⟩⟩
   ·obtain rfl:j=0:=by have:=A2 ht;omega
    rw [show flat a b (fun r q=>decide (i+1≤r∨(r=i∧0≤q)))=flat a b (fun r _=>decide (i≤r)) from B72 fun r q _ _=>.inl (by rw [decide_eq_decide];omega)]
    refine k6 (k7 (k7 (k8 A0 (k4 (k1 (A3 (A4 A0 A0 (A6 (N1 A0 A0 (by omega)) A0 (A7 A0 A0 (A5 ?_))))))))));refine k1 ?_
    exact ⟨i,by omega,by omega,Sees.of ⟨le1 rfl,le1 rfl,le1 rfl,le1 rfl,le1 rfl,trivial⟩ ⟨rfl,trivial⟩⟩
  ·obtain rfl:i=0:=by have:=A2 ht;omega
   rw [show flat a b (fun r _=>decide (0≤r))=flat a b (fun _ _=>true) from B72 fun r q _ _=>.inl (by simp)]
   refine D3 (Sees.freeze (k:=20) A0) ?_
   refine k6 (k2 (A3 (A4 A0 A0 (A7 A0 A0 (A5 ?_)))));refine k1 (k10 ?_)
   exact B8 (I1 rfl rfl rfl) rfl
theorem i64_id {n:Int} (h:-9223372036854775808≤n∧n≤9223372036854775807):IntKind.i64.wrap n=n:=IntWalk.i64_in _ h
theorem J43 {gf:Fr} {ob:Obs} (a b:List Int) (i j:Nat) (ha:a.length≤4096) (hb:b.length≤4096) (hi:i≤a.length) (hj:j≤b.length) (h8:C1 ob 8=some (.box [.p (.list Int 1 D12 (flat a b (fun _ _=>true)))])) (h3:C1 ob 3=some (.box [.p (.list Int 1 F2 b)])) :
  AL.Met Tryz.prog 94 [.one (.p (.v (.int .i64 i))),.one (.p (.v (.int .i64 j))),.one (.ref 8 0),.one (.ref 3 0)] gf ob [] (fun rs ob'=>rs=[.one (.p (.v (.int .i64 (dist (a.drop i) (b.drop j):Int))))]∧ob'=ob):=by
 have hg:=F54 (a:=a) (b:=b) (done:=fun _ _=>true) hi hj
 rw [if_pos rfl] at hg
 have hin:=(E71 (a:=a) (b:=b) hi hj).1
 have hL:=E42 a b (fun _ _=>true)
 have e1:(i:Int)*((b.length:Int)+1)=((i*(b.length+1):Nat):Int):=by push_cast;rfl
 have hbd:i*(b.length+1)≤4096*4097:=Nat.mul_le_mul (by omega) (by omega)
 have hbd2:(a.length+1)*(b.length+1)≤4097*4097:=Nat.mul_le_mul (by omega) (by omega)
 have hgi:(flat a b (fun _ _=>true))[((i:Int)*((b.length:Int)+1)+j).toNat]?=some (dist (a.drop i) (b.drop j):Int):=by
  rw [e1,show (((i*(b.length+1):Nat):Int)+j).toNat=i*(b.length+1)+j by omega];exact hg
 have hd:=H14 (a.drop i) (b.drop j)
 simp only [L12] at hd
 refine AL.Met.intro Tryz.func94 (by decide) A0 A0 A0 ?_
 refine k2 (A3 (A7 A0 A0 (A5 ?_)));refine k1 (k2 (A3 (A6 (C5 A0 h8 A0) A0 (A4 A0 A0 (A6 (C5 A0 h3 A0) A0 (F4 A0 A0 (E3 A0 A0 A0 (A6 (B80 A0 A0 (by (rw [e1];omega))) A0 ?_))))))));refine A4 A0 A0 (A6 (l6 A0 A0 (by (rw [e1];omega))) A0 ?_);refine A6 (B6 A0 (.pure _ _ _ _) A0 (by omega) hgi) A0 (A6 (B3 A0 A0) A0 (A6 (j3 A0) A0 (A7 A0 A0 (A5 ?_))))
 rw [i64_id (by omega)]
 refine k1 (k10 ?_)
 exact G7 (I8 rfl rfl) (by repeat (first | exact A8 | refine A9 rfl ?_ | refine D4 _ ?_)) (fun _ _ h=>h) ⟨rfl,rfl⟩
theorem K50 (a b:List Int) (ha:a.length≤4096) (hb:b.length≤4096):FnOk Tryz.prog 62 [K9 a,K9 b] (fun rs=>rs=[pSpans (N4 0 0 a b)]):=by
 obtain ⟨n,hn⟩:∃n,n=Y6 a b:=⟨_,rfl⟩
 have hnl:=I16 a b
 rw [←hn] at hnl
 have hbeg:=F56 a b 0 0
 rw [←hn] at hbeg
 refine FnOk.intro Tryz.func62 (by decide) A0 A0 A0 A0 ?_
 refine k2 (A3 (D1 (s6 3 A0 A0 A0) A0 (A7 A0 A0 (A5 ?_))));refine k1 (k2 (A3 (D1 (j4 5 _ spanC A0) A0 (A5 ?_))));refine k1 (k2 (A3 (A4 A0 A0 (G3 A0 A0 A0 A0 (C9 (F90 a b (by omega)) A0 A0 A0 ?_)))));rintro _ rfl;refine A7 A0 A0 (A5 ?_)
 rw [←hn]
 refine k1 (k2 (k2 (A3 (A4 A0 A0 (A4 A0 A0 (A5 ?_))))));refine k1 (k3 (D2 (X:=Nat) (fun k=>([(0,D6 Int 1 F2 a),(3,.s (.one (.ref 3 0))),(5,.s (.one (.buf 5 Span 2 spanC (W4 0 0 k)))),(6,C7 n),(15,C7 n),(16,C7 k)],[(3,.box [.p (.list Int 1 F2 b)]),(5,.spare (W4 0 0 k).length 2 131)])) (fun k=>k≤n) (fun k=>n - k) 0 (Nat.zero_le _) (Sees.of ⟨le1 rfl,le1 rfl,le1 rfl,le1 rfl,le1 rfl,le1 rfl,trivial⟩ ⟨rfl,rfl,trivial⟩) ?_))
 intro k hk
 dsimp only at hk ⊢
 have hrl:=F46 0 0 k
 refine k2 (A3 (F7 A0 A0 A0 (A5 ?_)));refine k1 (k2 ?_);refine B1 rfl (fun ht=>?_) (fun ht=>?_)
 ·have hlt:k < n:=by have:=A1 ht;omega
  have hsn:=H15 0 0 k
  refine k5 (k1 (k2 (k3 (k2 (A3 (A4 A0 A0 (A7 A0 A0 (A5 ?_))))))));refine k1 (A3 (A4 A0 A0 (A4 A0 A0 (A4 A0 A0 (A6 (K0 A0) A0 (A6 (D7 (c:=spanC) (ys:=[⟨(k:Int),(k:Int)⟩]) (G6 A0 A0 A0 A0 I0) A0 A0 A0) A0 (D1 (P0 A0 A0 A0 (.pure _ _ _ _) (by (simp only [L04,L09];omega)) A0) A0 (A7 A0 A0 (A5 ?_)))))))));refine k4 (k1 (A3 (E3 A0 A0 A0 (A4 A0 A0 (A5 ?_)))));refine k1 ?_;refine ⟨k+1,by omega,by omega,?_⟩
  rw [hsn,show (0:Int)+(k:Int)=k by omega]
  exact Sees.of ⟨le1 rfl,le1 rfl,le1 rfl,le1 rfl,le1 rfl,le1 rfl,trivial⟩ ⟨rfl,rfl,trivial⟩
 have hk':k=n:=by have:=A2 ht;omega
 subst hk'
 obtain ⟨a',ha'⟩:∃a',a'=a.drop k:=⟨_,rfl⟩
 obtain ⟨b',hb'⟩:∃b',b'=b.drop k:=⟨_,rfl⟩
 have hal:a'.length≤4096:=by rw [ha',L12];omega
 have hbl:b'.length≤4096:=by rw [hb',L12];omega
 rw [Int.zero_add,←ha',←hb'] at hbeg
 refine k6 (k2 (E7 (by kernel_rfl) (by kernel_rfl) (E9 A0 A0 (E9 A0 A0 (B7 (G06 A0 (.pure _ _ _ _) A0 (by omega) (by omega)) A0 A0 (B7 (C5 A0 A0 A0) A0 A0 (E9 A0 A0 (B7 (G06 A0 (.pure _ _ _ _) A0 (by omega) (by omega)) A0 A0 (B7 (H5 A0 A0) A0 A0 (d_eff (B9 TySz.out A0 A0 A0 A0 A0 A0) A0 (Q6 ?_)))))))))))
 rw [L03,←ha',←hb']
 refine k1 (k2 (A3 (A4 A0 A0 (G3 A0 A0 A0 A0 (C9 (F91 a' b' hal hbl) A0 A0 A0 ?_)))));rintro _ rfl;refine D1 (J1 8 A0) A0 (G1 (B9 TySz.out A0 A0 A0 A0 A0 A0) (A5 ?_));refine k1 (k2 (A3 (A6 (Y7 A0 A0) A0 (A7 A0 A0 (A5 ?_)))));refine k1 (k2 (k2 (A3 (A7 A0 A0 (A7 A0 A0 (A5 ?_))))));refine k1 (k3 (D2 (X:=Nat × Nat × List Span) (fun x=>([(0,D6 Int 1 F2 a'),(3,.s (.one (.ref 3 0))),(5,.s (.one (.buf 5 Span 2 spanC x.2.2))),(6,C7 k),(8,.s (.one (.ref 8 0))),(9,.s (.one (.clo 94 [] [(8,0),(3,0)]))),(10,C7 x.1),(11,C7 x.2.1)],[(3,.box [.p (.list Int 1 F2 b')]),(5,.spare x.2.2.length 2 131),(8,.box [.p (.list Int 1 D12 (flat a' b' (fun _ _=>true)))])])) (fun x=>x.1≤a'.length∧x.2.1≤b'.length∧x.2.2.length≤k+x.1∧N4 0 0 a b=x.2.2++N4 (k+x.1) (k+x.2.1) (a'.drop x.1) (b'.drop x.2.1)) (fun x=>(a'.length - x.1)+(b'.length - x.2.1)) (0,0,W4 0 0 k) ⟨Nat.zero_le _,Nat.zero_le _,by rw [hrl];exact Nat.le_refl _,by simpa using hbeg⟩ (Sees.of ⟨le1 rfl,le1 rfl,le1 rfl,le1 rfl,le1 rfl,le1 rfl,le1 rfl,le1 rfl,trivial⟩ ⟨rfl,rfl,rfl,trivial⟩) ?_))
 rintro ⟨i,j,out⟩ ⟨hi,hj,hol,he⟩
 dsimp only at hi hj hol he ⊢
 refine k2 (k2 (A3 (A4 A0 A0 (A4 A0 A0 (F4 A0 A0 (F7 A0 A0 A0 (A4 A0 A0 (B5 A0 A0 A0 A0 (fun hg=>by rw [hg];exact C2 A0 A0) ?_))))))));refine B5 A0 A0 A0 A0 (fun hg=>by rw [hg];exact C5 A0 A0 A0) ?_;refine B5 A0 A0 A0 A0 (fun hg=>by rw [hg];exact r5 A0 (.pure _ _ _ _)) ?_;refine B5 A0 A0 A0 A0 (fun hg=>by rw [hg];exact A75 A0 A0) ?_;refine K7 A0 A0 ?_;refine A5 ?_;refine k1 ?_;refine B1 rfl (fun ht=>?_) (fun ht=>?_)
 ·simp only [or_pick] at ht
  have hcond:=A1 ht
  refine A80 [(0,D6 Int 1 F2 a'),(3,.s (.one (.ref 3 0))),(5,.s (.one (.buf 5 Span 2 spanC out))),(6,C7 k),(8,.s (.one (.ref 8 0))),(9,.s (.one (.clo 94 [] [(8,0),(3,0)]))),(10,C7 i),(11,C7 j)] [(3,.box [.p (.list Int 1 F2 b')]),(5,.spare out.length 2 131),(8,.box [.p (.list Int 1 D12 (flat a' b' (fun _ _=>true)))])] (Sees.of ⟨le1 rfl,le1 rfl,le1 rfl,le1 rfl,le1 rfl,le1 rfl,le1 rfl,le1 rfl,trivial⟩ ⟨rfl,rfl,rfl,trivial⟩) ?_
  refine k5 (k1 (k3 (k3 (k2 (E7 (by kernel_rfl) (by kernel_rfl) (E9 A0 A0 (E9 A0 A0 (B7 (r5 A0 (.pure _ _ _ _)) A0 A0 (B7 (A75 A0 A0) A0 A0 (E9 A0 A0 (F6 A0 A0 (fun hg=>by rw [hg];exact C2 A0 A0) A0 A0 ?_)))))))))));refine F6 A0 A0 (fun hg=>by rw [hg];exact C5 A0 A0 A0) A0 A0 ?_;refine F6 A0 A0 (fun hg=>by rw [hg];exact r5 A0 (.pure _ _ _ _)) A0 A0 ?_;refine F6 A0 A0 (fun hg=>by rw [hg];exact A75 A0 A0) A0 A0 ?_;refine B7 (L8 A0 (fun h=>by first | rfl | (rw [h];rfl)) (fun h=>by first | rfl | (rw [h];rfl))) A0 A0 ?_;refine E9 A0 A0 (F6 A0 A0 (fun hg=>by rw [hg];exact C2 A0 A0) A0 A0 ?_);refine F6 A0 A0 (fun hg=>by rw [hg];exact C2 A0 A0) A0 A0 ?_;refine F6 A0 A0 (fun hg=>by have hq:=hg;(try simp at hq);rw [hg];exact B6 A0 (.pure _ _ _ _) A0 (by omega) (D39 (by omega))) A0 A0 ?_;refine F6 A0 A0 (fun hg=>by rw [hg];exact B3 A0 A0) A0 A0 ?_;refine F6 A0 A0 (fun hg=>by rw [hg];exact C5 A0 A0 A0) A0 A0 ?_;refine F6 A0 A0 (fun hg=>by rw [hg];exact C2 A0 A0) A0 A0 ?_;refine F6 A0 A0 (fun hg=>by have hq:=hg;(try simp at hq);rw [hg];exact B6 A0 (.pure _ _ _ _) A0 (by omega) (D39 (by omega))) A0 A0 ?_;refine F6 A0 A0 (fun hg=>by rw [hg];exact B3 A0 A0) A0 A0 ?_;refine F6 A0 A0 (fun hg=>by rw [hg];exact H0 A0 A0) A0 A0 ?_;refine B7 (L8 A0 (fun h=>by first | rfl | (rw [h];rfl)) (fun h=>by first | rfl | (rw [h];rfl))) A0 A0 ?_;refine B7 (H5 A0 A0) A0 A0 (Q6 ?_);refine k1 ?_;refine B1 rfl (fun ht=>?_) (fun ht=>?_)
  ·simp only [and_pick] at ht
   obtain ⟨⟨h1,h2⟩,h3⟩:=A1 ht
   have h1:i < a'.length:=by omega
   have h2:j < b'.length:=by omega
   rw [E38 a' b' i j h1 h2,if_pos (by simpa [h1,h2] using h3)] at he
   refine A80 [(0,D6 Int 1 F2 a'),(3,.s (.one (.ref 3 0))),(5,.s (.one (.buf 5 Span 2 spanC out))),(6,C7 k),(8,.s (.one (.ref 8 0))),(9,.s (.one (.clo 94 [] [(8,0),(3,0)]))),(10,C7 i),(11,C7 j)] [(3,.box [.p (.list Int 1 F2 b')]),(5,.spare out.length 2 131),(8,.box [.p (.list Int 1 D12 (flat a' b' (fun _ _=>true)))])] (Sees.of ⟨le1 rfl,le1 rfl,le1 rfl,le1 rfl,le1 rfl,le1 rfl,le1 rfl,le1 rfl,trivial⟩ ⟨rfl,rfl,rfl,trivial⟩) ?_
   refine k2 (A3 (A4 A0 A0 (A4 A0 A0 (A4 A0 A0 (E3 A0 A0 A0 (A4 A0 A0 (A4 A0 A0 (E3 A0 A0 A0 (A6 (K0 A0) A0 (A6 (D7 (c:=spanC) (ys:=[⟨(k:Int)+i,(k:Int)+j⟩]) (G6 A0 A0 A0 A0 I0) A0 A0 A0) A0 (D1 (P0 A0 A0 A0 (.pure _ _ _ _) (by (simp only [L04,L09];omega)) A0) A0 (A7 A0 A0 (A5 ?_)))))))))))));refine k1 (A3 (A4 A0 A0 (E3 A0 A0 A0 (A4 A0 A0 (E3 A0 A0 A0 (A7 A0 A0 (A7 A0 A0 (A5 ?_))))))));refine k4 (k4 (k1 ?_));refine ⟨(i+1,j+1,out++[⟨(k:Int)+i,(k:Int)+j⟩]),⟨by dsimp only;omega,by dsimp only;omega,by simp;omega,?_⟩,by dsimp only;omega,Sees.of ⟨le1 rfl,le1 rfl,le1 rfl,le1 rfl,le1 rfl,le1 rfl,le1 rfl,le1 rfl,trivial⟩ ⟨rfl,rfl,rfl,trivial⟩⟩
   dsimp only
   rw [he,L15]
   congr 2
  ·simp only [and_pick] at ht
   have hno:=A2 ht
   refine A80 [(0,D6 Int 1 F2 a'),(3,.s (.one (.ref 3 0))),(5,.s (.one (.buf 5 Span 2 spanC out))),(6,C7 k),(8,.s (.one (.ref 8 0))),(9,.s (.one (.clo 94 [] [(8,0),(3,0)]))),(10,C7 i),(11,C7 j)] [(3,.box [.p (.list Int 1 F2 b')]),(5,.spare out.length 2 131),(8,.box [.p (.list Int 1 D12 (flat a' b' (fun _ _=>true)))])] (Sees.of ⟨le1 rfl,le1 rfl,le1 rfl,le1 rfl,le1 rfl,le1 rfl,le1 rfl,le1 rfl,trivial⟩ ⟨rfl,rfl,rfl,trivial⟩) ?_
   by_cases h1:i < a'.length
   ·have hr:decide ((i:Int) < (a'.length:Int))=true:=decide_eq_true (by omega)
    have hd1:=H14 (a'.drop (i+1)) (b'.drop j)
    simp only [L12] at hd1
    have hstep:¬j < b'.length→dist (a'.drop (i+1)) (b'.drop j)+1=dist (a'.drop i) (b'.drop j)∧N4 (k+i) (k+j) (a'.drop i) (b'.drop j)=N4 (k+i+1) (k+j) (a'.drop (i+1)) (b'.drop j):=by
     intro hj2
     rw [show b'.drop j=[] from L21 (by omega),D52,D52,L12,L12,y7,y7]
     exact ⟨by omega,rfl⟩
    have hgo:j < b'.length→N4 (k+i) (k+j) (a'.drop i) (b'.drop j)=if dist (a'.drop (i+1)) (b'.drop j)+1=dist (a'.drop i) (b'.drop j) then N4 (k+i+1) (k+j) (a'.drop (i+1)) (b'.drop j) else N4 (k+i) (k+j+1) (a'.drop i) (b'.drop (j+1)):=by
     intro h2
     rw [E38 a' b' i j h1 h2,if_neg]
     intro h3
     exact hno ⟨⟨by omega,by omega⟩,by simpa [h1,h2] using h3⟩
    refine k2 (A3 (A4 A0 A0 (A4 A0 A0 (F4 A0 A0 (F7 A0 A0 A0 (A4 A0 A0 (G9 A0 A0 A0 hr (A4 A0 A0 (G9 A0 A0 A0 hr (A4 A0 A0 (G9 A0 A0 A0 hr (E3 A0 A0 A0 (G9 A0 A0 A0 hr (A4 A0 A0 (G9 A0 A0 A0 hr (C94 (J43 a' b' (i+1) j hal hbl (by omega) hj A0 A0) A0 A0 A0 A0 ?_))))))))))))))));rintro _ _ ⟨rfl,rfl⟩;refine G9 A0 A0 A0 hr (E3 A0 A0 A0 (G9 A0 A0 A0 hr (A4 A0 A0 (G9 A0 A0 A0 hr (A4 A0 A0 (G9 A0 A0 A0 hr (A4 A0 A0 (G9 A0 A0 A0 hr (C94 (J43 a' b' i j hal hbl hi hj A0 A0) A0 A0 A0 A0 ?_)))))))));rintro _ _ ⟨rfl,rfl⟩;refine G9 A0 A0 A0 hr (A6 (H0 A0 A0) A0 (K7 A0 A0 ?_));refine A7 A0 A0 (A5 ?_);refine k1 ?_;refine B1 rfl (fun ht=>?_) (fun ht=>?_)
    ·simp only [and_pick] at ht
     obtain ⟨_,h3⟩:=A1 ht
     have h3:dist (a'.drop (i+1)) (b'.drop j)+1=dist (a'.drop i) (b'.drop j):=by omega
     have hnext:N4 (k+i) (k+j) (a'.drop i) (b'.drop j)=N4 (k+i+1) (k+j) (a'.drop (i+1)) (b'.drop j):=by
      by_cases h2:j < b'.length
      ·rw [hgo h2,if_pos h3]
      ·exact (hstep h2).2
     rw [hnext] at he
     skip
     refine A3 (A4 A0 A0 (E3 A0 A0 A0 (A7 A0 A0 (A5 ?_))));refine k4 (k4 (k1 ?_));refine ⟨(i+1,j,out),⟨by dsimp only;omega,by dsimp only;omega,by dsimp only;omega,?_⟩,by dsimp only;omega,Sees.of ⟨le1 rfl,le1 rfl,le1 rfl,le1 rfl,le1 rfl,le1 rfl,le1 rfl,le1 rfl,trivial⟩ ⟨rfl,rfl,rfl,trivial⟩⟩
     dsimp only
     rw [he,show (k:Int)+(i:Int)+1=(k:Int)+((i+1:Nat):Int) by omega]
    ·simp only [and_pick] at ht
     have h3:=A2 ht
     have h3:¬dist (a'.drop (i+1)) (b'.drop j)+1=dist (a'.drop i) (b'.drop j):=fun q=>h3 ⟨by omega,by omega⟩
     have h2:j < b'.length:=by
      by_cases h2:j < b'.length
      ·exact h2
      ·exact absurd (hstep h2).1 h3
     rw [hgo h2,if_neg h3] at he
     skip
     refine A3 (A4 A0 A0 (E3 A0 A0 A0 (A7 A0 A0 (A5 ?_))));refine k4 (k4 (k1 ?_));refine ⟨(i,j+1,out),⟨by dsimp only;omega,by dsimp only;omega,by dsimp only;omega,?_⟩,by dsimp only;omega,Sees.of ⟨le1 rfl,le1 rfl,le1 rfl,le1 rfl,le1 rfl,le1 rfl,le1 rfl,le1 rfl,trivial⟩ ⟨rfl,rfl,rfl,trivial⟩⟩
     dsimp only
     rw [he,show (k:Int)+(j:Int)+1=(k:Int)+((j+1:Nat):Int) by omega]
   ·have hrf:decide ((i:Int) < (a'.length:Int))=false:=decide_eq_false (by omega)
    have h2:j < b'.length:=by omega
    refine k2 (A3 (A4 A0 A0 (A4 A0 A0 (F4 A0 A0 (F7 A0 A0 A0 (A4 A0 A0 (K1 A0 A0 A0 (by rw [hrf];decide) A0 ?_)))))));refine K1 A0 A0 A0 (by rw [hrf];decide) A0 ?_;refine K1 A0 A0 A0 (by rw [hrf];decide) A0 ?_;refine K1 A0 A0 A0 (by rw [hrf];decide) A0 ?_;refine K1 A0 A0 A0 (by rw [hrf];decide) A0 ?_;refine K1 A0 A0 A0 (by rw [hrf];decide) A0 ?_;refine K1 A0 A0 A0 (by rw [hrf];decide) A0 ?_;refine K1 A0 A0 A0 (by rw [hrf];decide) A0 ?_;refine K1 A0 A0 A0 (by rw [hrf];decide) A0 ?_;refine K1 A0 A0 A0 (by rw [hrf];decide) A0 ?_;refine K1 A0 A0 A0 (by rw [hrf];decide) A0 ?_;refine A6 (V5 A0 (hrf) A0) A0 (A7 A0 A0 (A5 ?_));refine k1 ?_;refine B1 rfl (fun ht=>?_) (fun ht=>?_)
    ·cases ht
    ·skip
     refine A3 (A4 A0 A0 (E3 A0 A0 A0 (A7 A0 A0 (A5 ?_))));refine k4 (k4 (k1 ?_));refine ⟨(i,j+1,out),⟨by dsimp only;omega,by dsimp only;omega,by dsimp only;omega,?_⟩,by dsimp only;omega,Sees.of ⟨le1 rfl,le1 rfl,le1 rfl,le1 rfl,le1 rfl,le1 rfl,le1 rfl,le1 rfl,trivial⟩ ⟨rfl,rfl,rfl,trivial⟩⟩
     dsimp only
     rw [he,show a'.drop i=[] from L21 (by omega),Z7,Z7]
 ·simp only [or_pick] at ht
  have hcond:=A2 ht
  rw [show a'.drop i=[] from L21 (by omega),Z7,L29] at he
  refine k6 (k2 (A3 (A4 A0 A0 (A7 A0 A0 (A5 ?_)))));refine k1 (k10 ?_)
  exact B8 (I1 rfl rfl rfl) (by rw [he])
theorem I77 (a b:List Int) (ha:a.length≤4096) (hb:b.length≤4096):FnOk Tryz.prog 30 [K9 a,K9 b] (fun rs=>rs=[pChanges (F47 a b),E2 0]):=by
 have hA:=F48 a b 0 0
 rw [Int.zero_add,Int.zero_add] at hA
 have hl:=C86 0 0 a b
 refine FnOk.intro Tryz.func30 (by decide) A0 A0 A0 A0 ?_
 refine k2 (A3 (A7 A0 A0 (A7 A0 A0 (A5 ?_))));refine k1 (k2 (k2 (A3 (A4 A0 A0 (A4 A0 A0 (C9 (H84 a b) A0 A0 A0 ?_))))));rintro _ rfl;refine A6 (S2 A0) A0 (A5 ?_);refine k1 ?_;refine B1 rfl (fun ht=>?_) (fun ht=>?_)
 ·exfalso
  have h:decide ((a.length:Int)≤4096∧(b.length:Int)≤4096)=true:=decide_eq_true ⟨by omega,by omega⟩
  rw [h] at ht;cases ht
 refine k5 (k1 (k2 (A3 (A4 A0 A0 (A4 A0 A0 (C9 (K50 a b ha hb) A0 A0 A0 ?_))))));rintro _ rfl;refine A4 A0 A0 (F4 A0 A0 (A4 A0 A0 (F4 A0 A0 (C9 (F89 (N4 0 0 a b) a.length b.length ⟨by omega,by omega⟩ ⟨by omega,by omega⟩ hA (by omega)) A0 A0 A0 ?_))));rintro _ rfl;refine E8 A0 A0 A0 (E8 A0 A0 A0 (A7 A0 A0 (A7 A0 A0 (A5 ?_))));refine k1 (k10 ?_)
 exact B8 (a6 rfl rfl rfl rfl rfl) rfl
end Go.Proofs.YtjmoigcpoopjhaaGreatDoor
namespace Go.Proofs.YtjmoigcpoopjhaaGreatDoor
open Go Go.AL
set_option maxRecDepth 100000
set_option maxHeartbeats 1000000
theorem tid_old {gf:Fr} {ob:Obs} (names:List Str) (s:Str) (hs:s∈names) (h0:C1 ob 710=some (.box [.mut 711,.buf 712 Str 1 X2 names])) (h1:C1 ob 711=some (.map Str s9 (A41 names 0))) :
  AL.Met Tryz.prog 89 [.one (.ref 710 0),.one (.p (.v (.string ⟨s.toArray⟩)))] gf ob [] (fun rs ob'=>rs=[.one (.p (.v (.int .i64 (T3 names s 0))))]∧ob'=ob):=by
 have hg:=G48 s names 0 hs
 refine AL.Met.intro Tryz.func89 (by decide) A0 A0 A0 ?_
 refine k2 (A3 (A7 A0 A0 (A5 ?_)));refine k1 (k2 (A3 (A4 A0 A0 (A6 (B2 A0) A0 (A6 (B0 A0) A0 (A6 (C5 A0 h0 A0) A0 (A4 A0 A0 (A6 (C02 (s) (r:=some (.v (.int .i64 (T3 names s 0)))) A0 h1 A0 A12 A13 (hg)) A0 (A4 A0 A0 (E8 A0 A0 A0 (E8 A0 A0 A0 (A7 A0 A0 (A7 A0 A0 (A5 ?_))))))))))))));refine k1 (k2 (k2 (A3 (A4 A0 A0 (A6 (S2 A0) A0 (A5 ?_))))));refine k1 ?_;refine B1 rfl (fun ht=>?_) (fun ht=>?_)
 ·cases ht
 refine k5 (k1 (k2 (A3 (A4 A0 A0 (A7 A0 A0 (A5 ?_))))));refine k1 (k10 ?_)
 exact G7 (I8 rfl rfl) (by repeat (first | exact A8 | refine A9 rfl ?_ | refine D4 _ ?_)) (fun _ _ h=>h) ⟨rfl,rfl⟩
theorem tid_new {gf:Fr} {ob:Obs} (names:List Str) (s:Str) (hs:s∉names) (hl:names.length≤1073741823) (h0:C1 ob 710=some (.box [.mut 711,.buf 712 Str 1 X2 names])) (h1:C1 ob 711=some (.map Str s9 (A41 names 0)))
  (h2:C1 ob 712=some (.spare names.length 1 9)) :
  AL.Met Tryz.prog 89 [.one (.ref 710 0),.one (.p (.v (.string ⟨s.toArray⟩)))] gf ob [712] (fun rs ob'=>rs=[.one (.p (.v (.int .i64 names.length)))]∧ob'=(710,.box [.mut 711,.buf 712 Str 1 X2 (names++[s])])::(712,.spare (names++[s]).length 1 9)::Obs.forget 712 ((711,.map Str s9 (A41 names 0++[(s,.v (.int .i64 names.length))]))::ob)):=by
 have hg:=F57 s names 0 hs
 refine AL.Met.intro Tryz.func89 (by decide) A0 A0 A0 ?_
 refine k2 (A3 (A7 A0 A0 (A5 ?_)));refine k1 (k2 (A3 (A4 A0 A0 (A6 (B2 A0) A0 (A6 (B0 A0) A0 (A6 (C5 A0 h0 A0) A0 (A4 A0 A0 (A6 (C02 (s) (r:=none) A0 h1 A0 A12 A13 (hg)) A0 (A4 A0 A0 (E8 A0 A0 A0 (E8 A0 A0 A0 (A7 A0 A0 (A7 A0 A0 (A5 ?_))))))))))))));refine k1 (k2 (k2 (A3 (A4 A0 A0 (A6 (S2 A0) A0 (A5 ?_))))));refine k1 ?_;refine B1 rfl (fun ht=>?_) (fun ht=>?_)
 ·refine k2 (A3 (A4 A0 A0 (A6 (B2 A0) A0 (A6 (B0 A0) A0 (A6 (C5 A0 h0 A0) A0 (A6 (r5 A0 (.buf _ _ _ _ _)) A0 (A7 A0 A0 (A5 ?_))))))));refine k1 (k2 (A3 (A4 A0 A0 (A6 (B2 A0) A0 (A6 (B0 A0) A0 (A6 (C5 A0 h0 A0) A0 (A4 A0 A0 (A4 A0 A0 (G1 (H45 (s) A0 h1 A0 A0 A0 A12 A13 (hg)) (A5 ?_))))))))));refine k1 ?_
  have h0':C1 ((711,Ob.map Str s9 (A41 names 0++[(s,.v (.int .i64 names.length))]))::ob) 710=some (.box [.mut 711,.buf 712 Str 1 X2 names]):=by rw [B4 (by decide)];exact h0
  have h2':C1 ((711,Ob.map Str s9 (A41 names 0++[(s,.v (.int .i64 names.length))]))::ob) 712=some (.spare names.length 1 9):=by rw [B4 (by decide)];exact h2
  have h0'':C1 ((712,Ob.spare (names++[s]).length 1 9)::Obs.forget 712 ((711,Ob.map Str s9 (A41 names 0++[(s,.v (.int .i64 names.length))]))::ob)) 710=some (.box [.mut 711,.p (.list Str 1 X2 names)]):=by
   rw [B4 (by decide),K6,h0'];rfl
  refine A3 (A4 A0 A0 (A4 A0 A0 (A6 (B2 A0) A0 (A6 (B0 A0) A0 (A6 (C5 A0 h0' A0) A0 (A4 A0 A0 (A6 (D7 (c:=X2) (ys:=[s]) (G6 A0 A0 A0 A0 I0) A0 A0 A0) A0 (D1 (P0 A0 h2' A0 (.pure _ _ _ _) (by (simp only [L04,L09];omega)) A0) A0 (A6 (B2 A0) A0 (A6 (B0 A0) A0 (G1 (B9 TySz.out A0 h0'' A0 A0 A0 A0) (A5 ?_))))))))))));refine k1 (k2 (A3 (A4 A0 A0 (A7 A0 A0 (A5 ?_)))));refine k1 (k10 ?_)
  exact G7 (I8 rfl rfl) (by repeat (first | exact A8 | refine A9 rfl ?_ | refine D4 _ ?_)) (fun _ _ h=>h) ⟨rfl,rfl⟩
 ·cases ht
theorem I78 (files:List (List Str)) (i m:Nat):(Q7 files i).all (TC.free m)=true:=by
 rw [List.all_eq_true]
 intro t ht
 unfold Q7 at ht
 obtain ⟨r,_,rfl⟩:=List.mem_map.1 ht
 split<;>rfl
theorem J91 {files:List (List Str)} {i:Nat} (b x:TC) (m:Nat):(((Q7 files i).set i b).map (TC.forget m)).set i x=(Q7 files i).set i x:=by
 have e1:(Q7 files i).map (TC.forget m)=Q7 files i:=by
  unfold Q7
  rw [L38]
  apply List.map_congr_left
  intro r _
  simp only [Function.comp]
  split<;>rfl
 rw [List.map_set,e1,List.set_set]
theorem I79 {files:List (List Str)} {i:Nat} (b x:TC) (m m':Nat):((((Q7 files i).set i b).map (TC.forget m)).map (TC.forget m')).set i x=(Q7 files i).set i x:=by
 have e1:∀m,(Q7 files i).map (TC.forget m)=Q7 files i:=by
  intro m
  unfold Q7
  rw [L38]
  apply List.map_congr_left
  intro r _
  simp only [Function.comp]
  split<;>rfl
 rw [List.map_set,e1,List.map_set,e1,List.set_set]
theorem J92 (files:List (List Str)) (hn:files.length≤1048576) (hl:files.flatten.length≤536870911):FnOk Tryz.prog 59 [pStrss files] (fun rs=>rs=[pIntss (files.map (S5 (I9 files))),E12 (I9 files)]):=by
 refine FnOk.intro Tryz.func59 (by decide) A0 A0 A0 A0 ?_
 refine k2 (A3 (A7 A0 A0 (A7 A0 A0 (A5 ?_))));refine k1 (k2 (A3 (D1 (D82 711 Str s9 A0) A0 (A6 (K0 A0) A0 (D1 (s6 710 A0 A0 A0) A0 (A7 A0 A0 (A5 ?_)))))));refine k1 (k2 (D3 (K95 712 Str 1 X2 9 (kb:=710) (o:=1) A0 A0 A0) ?_))
 refine A3 (A4 A0 A0 (F4 A0 A0 (D1 (A00 20 Unit (fun _ _=>.v (.slice none 0 0)) () A0 A0 (by omega) (by omega) (fun _=>by first | exact ⟨⟨rfl,rfl⟩,trivial⟩ | exact ⟨I4 _ _ _,trivial⟩ | exact ⟨I4 _ _ _,⟨rfl,rfl⟩,I4 _ _ _,trivial⟩) (by first | rfl | (simp [K4,L0,Ob.free,SV.free,S1.free,TC.free]<;>rfl))) A0 ?_)));refine A7 A0 A0 (A5 ?_);refine k1 (k2 (k2 (D3 (K99 20 A0) ?_)))
 have hz:((List.replicate ((files.length:Nat):Int).toNat ()).map fun x=>TC.p ((fun (_:Unit) (_:Nat)=>Cell.v (.slice none 0 0)) x 0))=Q7 files 0:=by
  rw [L03,←J09];simp
 have hz2:(List.replicate ((files.length:Nat):Int).toNat ()).length=files.length:=by simp
 rw [hz,hz2]
 refine A3 (A4 A0 A0 (F4 A0 A0 (A4 A0 A0 (A5 ?_))));refine k1 (k3 ?_);refine D2 (X:=Nat) (fun i=>([(4,.s (.one (.ref 710 0))),(5,.s (.one (.mut 20))),(16,D6 (List Str) 1 strsC files),(17,C7 files.length),(18,C7 i)],[(710,.box [.mut 711,.buf 712 Str 1 X2 (P7 files i 0)]),(711,.map Str s9 (A41 (P7 files i 0) 0)),(712,.spare (P7 files i 0).length 1 9),(20,.tarr files.length 1 (Q7 files i))])) (fun i=>i≤files.length) (fun i=>files.length - i) 0 (Nat.zero_le _) ?_ ?_
 ·rw [show P7 files 0 0=[] from rfl]
  exact Sees.of ⟨le1 rfl,le1 rfl,le1 rfl,le1 rfl,le1 rfl,trivial⟩ ⟨rfl,rfl,rfl,rfl,trivial⟩
 intro i hi
 dsimp only at hi ⊢
 refine k2 (A3 (F7 A0 A0 A0 (A5 ?_)));refine k1 (k2 ?_);refine B1 rfl (fun ht=>?_) (fun ht=>?_)
 ·have hlt:i < files.length:=by have:=A1 ht;omega
  obtain ⟨f,hf⟩:∃f,f=files.getD i []:=⟨_,rfl⟩
  have hv:files[i]?=some f:=by rw [hf];simp [hlt]
  have hfl:f.length≤files.flatten.length:=by
   have h1:f∈files:=L14 hv
   have:∀(fs:List (List Str)),f∈fs→f.length≤fs.flatten.length:=by
    intro fs
    induction fs with
    | nil=>intro h;simp at h
    | cons x r ih =>
     intro h
     simp only [L36,L06]
     rcases List.mem_cons.1 h with rfl | h
     ·omega
     ·have:=ih h;omega
   exact this files h1
  have hrl:(Q7 files i).length=files.length:=by simp [Q7]
  refine k5 (k1 (k2 (k3 (k2 (A3 (A4 A0 A0 (A6 (B6 A0 (.pure _ _ _ _) A0 (by omega) hv) A0 (A6 (B3 A0 A0) A0 (A7 A0 A0 (A7 A0 A0 (A5 ?_)))))))))));refine k1 (k2 (A3 (A4 A0 A0 (F4 A0 A0 (A4 A0 A0 (A5 ?_))))));refine k1 (k3 (D3 (K96 713 Int 1 F2 3 (kb:=20) (o:=i) A0 (K14 hlt) (by simp [K4,L0,Ob.free,SV.free,S1.free,TC.free,I78];repeat' (first | rfl | constructor))) ?_))
  refine D2 (X:=Nat) (fun j=>([(4,.s (.one (.ref 710 0))),(5,.s (.one (.mut 20))),(6,C7 i),(16,D6 (List Str) 1 strsC files),(17,C7 files.length),(18,C7 i),(23,D6 Str 1 X2 f),(24,C7 f.length),(25,C7 j)],[(20,.tarr files.length 1 ((Q7 files i).set i (.buf 713 Int 1 F2 (S5 (I9 files) (f.take j))))),(710,.box [.mut 711,.buf 712 Str 1 X2 (P7 files i j)]),(711,.map Str s9 (A41 (P7 files i j) 0)),(712,.spare (P7 files i j).length 1 9),(713,.spare (S5 (I9 files) (f.take j)).length 1 3)])) (fun j=>j≤f.length) (fun j=>f.length - j) 0 (Nat.zero_le _) ?_ ?_
  ·exact Sees.of ⟨le1 rfl,le1 rfl,le1 rfl,le1 rfl,le1 rfl,le1 rfl,le1 rfl,le1 rfl,le1 rfl,trivial⟩ ⟨rfl,rfl,rfl,rfl,rfl,trivial⟩
  intro j hj
  dsimp only at hj ⊢
  refine k2 (A3 (F7 A0 A0 A0 (A5 ?_)));refine k1 (k2 ?_);refine B1 rfl (fun ht=>?_) (fun ht=>?_)
  ·have hlt2:j < f.length:=by have:=A1 ht;omega
   obtain ⟨s,hs⟩:∃s,s=f[j]:=⟨_,rfl⟩
   have hvs:f[j]?=some s:=by rw [hs];simp [hlt2]
   have hstep:=H23 files i j s (by rw [←hf];exact hvs)
   obtain ⟨names,hnm⟩:∃names,names=P7 files i j:=⟨_,rfl⟩
   have hnl:=F58 files i j
   obtain ⟨rest,hrest⟩:=E44 files i (j+1)
   obtain ⟨ids,hids⟩:∃ids,ids=S5 (I9 files) (f.take j):=⟨_,rfl⟩
   have hil:ids.length=j:=by rw [hids];simp [S5];omega
   have hnext:S5 (I9 files) (f.take (j+1))=ids++[T3 (I9 files) s 0]:=by
    rw [hids,L35 hlt2,←hs];unfold S5;rw [L40];rfl
   rw [hstep] at hrest
   rw [←hnm] at hstep hnl hrest ⊢
   rw [←hids]
   have hTi:((Q7 files i).set i (.buf 713 Int 1 F2 ids))[((i:Nat):Int).toNat]?=some (.buf 713 Int 1 F2 ids):=by
    rw [L03,List.getElem?_set_self (by rw [hrl];omega)]
   have hTi2:(((Q7 files i).set i (.buf 713 Int 1 F2 ids)).map (TC.forget 712))[((i:Nat):Int).toNat]?=some (.buf 713 Int 1 F2 ids):=by
    rw [L51,hTi];rfl
   refine k5 (k1 (k2 (k3 (k2 (A3 (A6 (B6 A0 (.pure _ _ _ _) A0 (by omega) hvs) A0 (A6 (B3 A0 A0) A0 (A7 A0 A0 (A5 ?_)))))))))
   by_cases hmem:s∈names
   ·have hns:R9 names s=names:=by unfold R9;rw [if_pos hmem]
    rw [hns] at hstep hrest
    have hpl:T3 (I9 files) s 0=T3 names s 0:=by rw [hrest];exact C27 s rest names 0 hmem
    refine V4 ?_
    refine A80 ((9,Z9 s)::[(4,.s (.one (.ref 710 0))),(5,.s (.one (.mut 20))),(6,C7 i),(16,D6 (List Str) 1 strsC files),(17,C7 files.length),(18,C7 i),(23,D6 Str 1 X2 f),(24,C7 f.length),(25,C7 j)]) [(20,.tarr files.length 1 ((Q7 files i).set i (.buf 713 Int 1 F2 ids))),(710,.box [.mut 711,.buf 712 Str 1 X2 names]),(711,.map Str s9 (A41 names 0)),(712,.spare names.length 1 9),(713,.spare ids.length 1 3)] (Sees.of ⟨le1 rfl,le1 rfl,le1 rfl,le1 rfl,le1 rfl,le1 rfl,le1 rfl,le1 rfl,le1 rfl,le1 rfl,trivial⟩ ⟨rfl,rfl,rfl,rfl,rfl,trivial⟩) ?_
    refine Q0 [12,10,8] [[],[8],[10,8],[12,10,8]] [(8,([],[])),(10,([713],[34])),(12,([],[]))] [(0,[]),(1,[]),(2,[]),(3,[]),(4,[]),(5,[]),(6,[]),(7,[]),(8,[]),(9,[8]),(10,[8]),(11,[10,8]),(12,[10,8])] [(0,[8]),(0,[10,8]),(1,[8]),(1,[10,8]),(2,[8]),(3,[8]),(4,[8]),(5,[8])] (by kernel_rfl) (by kernel_rfl) (E6 A0 A0 (by kernel_rfl) A0 A0 (C2 A0 A0) (E6 A0 A0 (by kernel_rfl) A0 A0 (C2 A0 A0) (E6 A0 A0 (by kernel_rfl) A0 A0 (C2 A0 A0) (E6 A0 A0 (by kernel_rfl) A0 A0 (C2 A0 A0) (E6 A0 A0 (by kernel_rfl) A0 A0 (T8 A0 A0 A0 (by omega) (by omega)) (E6 A0 A0 (by kernel_rfl) A0 A0 (z8 A0 A0 (by first | exact hTi | exact hTi2)) ?_))))));refine E6 A0 A0 (by kernel_rfl) A0 A0 (C2 A0 A0) (E6 A0 A0 (by kernel_rfl) A0 A0 (C2 A0 A0) (Z5 A0 A0 (by kernel_rfl) A0 A0 (r_met (fun gf=>tid_old names s hmem A0 A0) A0 A0) A0 (E6 A0 A0 (by kernel_rfl) A0 A0 (D7 (c:=F2) (ys:=[T3 names s 0]) (G6 A0 A0 A0 A0 I0) A0 A0 A0) (Z5 A0 A0 (by kernel_rfl) A0 A0 (D84 (fun frc hU=>P0 (T9 hU A0) A0 (T9 hU A0) (.pure _ _ _ _) (by (simp only [L04,L09];omega)) A0)) A0 (E6 A0 A0 (by kernel_rfl) A0 A0 (T8 A0 A0 A0 (by omega) (by omega)) (Z5 A0 A0 (by kernel_rfl) A0 A0 (A84 (fun frc hU=>B97 TySz.out (T9 hU A0) A0 (by (simp;omega)) (T9 hU A0) A0)) A0 ?_))))));refine G11 (by kernel_rfl) rfl ?_ ?_
    ·refine O3 A0 A0 (by kernel_rfl) A0 A0 (C2 A0 A0) (O3 A0 A0 (by kernel_rfl) A0 A0 (C2 A0 A0) (O3 A0 A0 (by kernel_rfl) A0 A0 (C2 A0 A0) (O3 A0 A0 (by kernel_rfl) A0 A0 (C2 A0 A0) (O3 A0 A0 (by kernel_rfl) A0 A0 (C2 A0 A0) (O3 A0 A0 (by kernel_rfl) A0 A0 (C2 A0 A0) (O3 A0 A0 (by kernel_rfl) A0 A0 (T8 A0 A0 A0 (by omega) (by omega)) (O3 A0 A0 (by kernel_rfl) A0 A0 (z8 A0 A0 (by first | exact hTi | exact hTi2)) ?_)))))));exact C03
    refine A80 [(4,.s (.one (.ref 710 0))),(5,.s (.one (.mut 20))),(6,C7 i),(16,D6 (List Str) 1 strsC files),(17,C7 files.length),(18,C7 i),(23,D6 Str 1 X2 f),(24,C7 f.length),(25,C7 j)] [(20,.tarr files.length 1 ((Q7 files i).set i (.buf 713 Int 1 F2 (ids++[T3 names s 0])))),(710,.box [.mut 711,.buf 712 Str 1 X2 (names)]),(711,.map Str s9 (A41 (names) 0)),(712,.spare (names).length 1 9),(713,.spare (ids++[T3 names s 0]).length 1 3)] (by rw [L03 i,J91];exact Sees.of ⟨le1 rfl,le1 rfl,le1 rfl,le1 rfl,le1 rfl,le1 rfl,le1 rfl,le1 rfl,le1 rfl,trivial⟩ ⟨rfl,rfl,rfl,rfl,rfl,trivial⟩) ?_
    refine A3 (E3 A0 A0 A0 (A4 A0 A0 (A5 ?_)));refine k1 ?_
    exact ⟨j+1,hlt2,by omega,by rw [hstep,hnext,hpl];exact Sees.of ⟨le1 rfl,le1 rfl,le1 rfl,le1 rfl,le1 rfl,le1 rfl,le1 rfl,le1 rfl,le1 rfl,trivial⟩ ⟨rfl,rfl,rfl,rfl,rfl,trivial⟩⟩
   ·refine V4 ?_
    have hns:R9 names s=names++[s]:=by unfold R9;rw [if_neg hmem]
    rw [hns] at hstep hrest
    have hkv:A41 (names++[s]) 0=A41 names 0++[(s,.v (.int .i64 (names.length:Int)))]:=by rw [G47];simp only [Int.zero_add]
    have hpl:T3 (I9 files) s 0=names.length:=by
     rw [hrest,C27 s rest (names++[s]) 0 (by simp),E43 s names 0 hmem];omega
    refine A80 ((9,Z9 s)::[(4,.s (.one (.ref 710 0))),(5,.s (.one (.mut 20))),(6,C7 i),(16,D6 (List Str) 1 strsC files),(17,C7 files.length),(18,C7 i),(23,D6 Str 1 X2 f),(24,C7 f.length),(25,C7 j)]) [(20,.tarr files.length 1 ((Q7 files i).set i (.buf 713 Int 1 F2 (ids)))),(710,.box [.mut 711,.buf 712 Str 1 X2 (names)]),(711,.map Str s9 (A41 (names) 0)),(712,.spare (names).length 1 9),(713,.spare (ids).length 1 3)] (Sees.of ⟨le1 rfl,le1 rfl,le1 rfl,le1 rfl,le1 rfl,le1 rfl,le1 rfl,le1 rfl,le1 rfl,le1 rfl,trivial⟩ ⟨rfl,rfl,rfl,rfl,rfl,trivial⟩) ?_
    refine Q0 [12,10,8] [[],[8],[10,8],[12,10,8]] [(8,([712],[])),(10,([713],[34])),(12,([],[]))] [(0,[]),(1,[]),(2,[]),(3,[]),(4,[]),(5,[]),(6,[]),(7,[]),(8,[]),(9,[8]),(10,[8]),(11,[10,8]),(12,[10,8])] [(0,[8]),(0,[10,8]),(1,[8]),(1,[10,8]),(2,[8]),(3,[8]),(4,[8]),(5,[8])] (by kernel_rfl) (by kernel_rfl) (E6 A0 A0 (by kernel_rfl) A0 A0 (C2 A0 A0) (E6 A0 A0 (by kernel_rfl) A0 A0 (C2 A0 A0) (E6 A0 A0 (by kernel_rfl) A0 A0 (C2 A0 A0) (E6 A0 A0 (by kernel_rfl) A0 A0 (C2 A0 A0) (E6 A0 A0 (by kernel_rfl) A0 A0 (T8 A0 A0 A0 (by omega) (by omega)) (E6 A0 A0 (by kernel_rfl) A0 A0 (z8 A0 A0 (by first | exact hTi | exact hTi2)) ?_))))));refine E6 A0 A0 (by kernel_rfl) A0 A0 (C2 A0 A0) (E6 A0 A0 (by kernel_rfl) A0 A0 (C2 A0 A0) (Z5 A0 A0 (by kernel_rfl) A0 A0 (r_met (fun gf=>tid_new names s hmem (by omega) A0 A0 A0) A0 A0) A0 (E6 A0 A0 (by kernel_rfl) A0 A0 (D7 (c:=F2) (ys:=[(names.length:Int)]) (G6 A0 A0 A0 A0 I0) A0 A0 A0) (Z5 A0 A0 (by kernel_rfl) A0 A0 (D84 (fun frc hU=>P0 (T9 hU A0) A0 (T9 hU A0) (.pure _ _ _ _) (by (simp only [L04,L09];omega)) A0)) A0 (E6 A0 A0 (by kernel_rfl) A0 A0 (T8 A0 A0 A0 (by omega) (by omega)) (Z5 A0 A0 (by kernel_rfl) A0 A0 (A84 (fun frc hU=>B97 TySz.out (T9 hU A0) A0 (by (simp;omega)) (T9 hU A0) A0)) A0 ?_))))));refine G11 (by kernel_rfl) rfl ?_ ?_
    ·refine O3 A0 A0 (by kernel_rfl) A0 A0 (C2 A0 A0) (O3 A0 A0 (by kernel_rfl) A0 A0 (C2 A0 A0) (O3 A0 A0 (by kernel_rfl) A0 A0 (C2 A0 A0) (O3 A0 A0 (by kernel_rfl) A0 A0 (C2 A0 A0) (O3 A0 A0 (by kernel_rfl) A0 A0 (C2 A0 A0) (O3 A0 A0 (by kernel_rfl) A0 A0 (C2 A0 A0) (O3 A0 A0 (by kernel_rfl) A0 A0 (T8 A0 A0 A0 (by omega) (by omega)) (O3 A0 A0 (by kernel_rfl) A0 A0 (z8 A0 A0 (by first | exact hTi | exact hTi2)) ?_)))))));exact C03
    refine A80 [(4,.s (.one (.ref 710 0))),(5,.s (.one (.mut 20))),(6,C7 i),(16,D6 (List Str) 1 strsC files),(17,C7 files.length),(18,C7 i),(23,D6 Str 1 X2 f),(24,C7 f.length),(25,C7 j)] [(20,.tarr files.length 1 ((Q7 files i).set i (.buf 713 Int 1 F2 (ids++[(names.length:Int)])))),(710,.box [.mut 711,.buf 712 Str 1 X2 (names++[s])]),(711,.map Str s9 (A41 (names++[s]) 0)),(712,.spare (names++[s]).length 1 9),(713,.spare (ids++[(names.length:Int)]).length 1 3)] (by rw [L03 i,I79,hkv];exact Sees.of ⟨le1 rfl,le1 rfl,le1 rfl,le1 rfl,le1 rfl,le1 rfl,le1 rfl,le1 rfl,le1 rfl,trivial⟩ ⟨rfl,rfl,rfl,rfl,rfl,trivial⟩) ?_
    refine A3 (E3 A0 A0 A0 (A4 A0 A0 (A5 ?_)));refine k1 ?_
    exact ⟨j+1,hlt2,by omega,by rw [hstep,hnext,hpl];exact Sees.of ⟨le1 rfl,le1 rfl,le1 rfl,le1 rfl,le1 rfl,le1 rfl,le1 rfl,le1 rfl,le1 rfl,trivial⟩ ⟨rfl,rfl,rfl,rfl,rfl,trivial⟩⟩
  ·have hj2:j=f.length:=by have:=A2 ht;omega
   subst hj2
   rw [L08]
   refine k6 (k7 (k7 (k8 A0 (k4 (k1 (D3 (Sees.forget 713) ?_))))))
   have hfr:((Q7 files i).set i (.buf 713 Int 1 F2 (S5 (I9 files) f))).map (TC.forget 713)=Q7 files (i+1):=by rw [hf];exact H24 files i 713 hlt
   have hnr:P7 files (i+1) 0=P7 files i f.length:=by rw [hf];exact I17 files i
   refine A80 [(4,.s (.one (.ref 710 0))),(5,.s (.one (.mut 20))),(16,D6 (List Str) 1 strsC files),(17,C7 files.length),(18,C7 i)] [(710,.box [.mut 711,.buf 712 Str 1 X2 (P7 files (i+1) 0)]),(711,.map Str s9 (A41 (P7 files (i+1) 0) 0)),(712,.spare (P7 files (i+1) 0).length 1 9),(20,.tarr files.length 1 (Q7 files (i+1)))] (by rw [hnr,←hfr];exact Sees.of ⟨le1 rfl,le1 rfl,le1 rfl,le1 rfl,le1 rfl,trivial⟩ ⟨rfl,rfl,rfl,rfl,trivial⟩) ?_
   refine A3 (E3 A0 A0 A0 (A4 A0 A0 (A5 ?_)));refine k1 ?_
   exact ⟨i+1,hlt,by omega,Sees.of ⟨le1 rfl,le1 rfl,le1 rfl,le1 rfl,le1 rfl,trivial⟩ ⟨rfl,rfl,rfl,rfl,trivial⟩⟩
 ·have hi2:i=files.length:=by have:=A2 ht;omega
  rw [hi2,I18]
  refine D3 (L00 20 (c:=intsC) (files.map (S5 (I9 files))) A0 (by simp) (J10 files)) ?_
  refine D3 (Sees.freeze (k:=20) A0) ?_
  refine D3 (Sees.forget 712) ?_
  refine k6 (k2 (E7 (by kernel_rfl) (by kernel_rfl) (E9 A0 A0 (E9 A0 A0 (B7 (B2 A0) A0 A0 (B7 (B0 A0) A0 A0 (B7 (C5 A0 A0 A0) A0 A0 (B7 (H5 A0 A0) A0 A0 (B7 (H5 A0 A0) A0 A0 (Q6 ?_))))))))));refine k1 (k10 ?_)
  exact B8 (a6 rfl rfl rfl rfl rfl) rfl
theorem G94 (files:List (List Str)) (hn:files.length≤1048576) (hl:files.flatten.length≤536870911):FnOk Tryz.prog 29 [pStrss files] (fun rs=>rs=[pIntss (files.map (S5 (I9 files)))]):=by
 refine FnOk.intro Tryz.func29 (by decide) A0 A0 A0 A0 ?_
 refine k2 (A3 (A7 A0 A0 (A5 ?_)));refine k1 (k2 (A3 (A4 A0 A0 (C9 (J92 files hn hl) A0 A0 A0 ?_))));rintro _ rfl;refine A4 A0 A0 (E8 A0 A0 A0 (E8 A0 A0 A0 (A7 A0 A0 (A7 A0 A0 (A5 ?_)))));refine k1 (k2 (A3 (A4 A0 A0 (A7 A0 A0 (A5 ?_)))));refine k1 (k10 ?_)
 exact B8 (I1 rfl rfl rfl) rfl
set_option maxHeartbeats 1000000
theorem B13 {k:Nat} {ob:Obs} {j:Nat} {o:Ob} (h:C1 (Obs.drop k ob) j=some o):C1 ob j=some o∧j≠k:=by
 by_cases e:j=k
 ·subst e
  exfalso
  have:∀ob:Obs,C1 (Obs.drop j ob) j=none:=by
   intro ob
   induction ob with
   | nil=>rfl
   | cons p r ih =>
    obtain ⟨i,x⟩:=p
    unfold Obs.drop
    cases hb:Nat.beq i j
    ·show C1 ((i,x)::Obs.drop j r) j=none
     rw [B4 (fun e=>by rw [e,Nat.beq_refl] at hb;cases hb)];exact ih
    ·exact ih
  rw [this] at h;cases h
 ·rw [B33 e] at h;exact ⟨h,e⟩
theorem K87 {P:Program} {nt:Nat} {fr:Fr} {ob:Obs} {t k:Nat} {ts:List TC} {cs:List Cell} (ht:E5 fr t=some (.s (.one (.ref k 0)))) (hk:C1 ob k=some (.box ts)) (hp:A47 ts=some cs) (hk0:Nat.blt k 1000000=true) :
  Sees P nt fr ob ((t,.s (.one (.eref Unit cs.length (fun _ j=>cs.getD j (.v undef)) () 0)))::fr) (Obs.drop k ob):=by
 unfold Sees
 intro S G a w hn h
 have hk6:k < 1000000:=by simpa using hk0
 obtain ⟨b,vs,tt,hG,hh,hall⟩:=h.box hk
 have hs:Sim P S fr (Obs.drop k ob) G a w:=h.weakenO fun j o hj=>(B13 hj).1
 have hrd:∀b i z,F0 (Mut S ob G) w b i z→F0 (Mut S (Obs.drop k ob) G) w b i z:=fun b i z hz=>⟨hz.1,fun hm=>hz.2 (hm.imp id fun ⟨q,o,hq,ho⟩=>⟨q,o,(B13 hq).1,ho⟩)⟩
 refine ⟨G,{ hs with facts:=fun i s hi=>?_ }⟩
 by_cases he:t=i
 ·subst he
  rw [E0] at hi
  cases hi
  obtain ⟨b',hb',hu⟩:=h.facts t _ ht
  rw [hG] at hb'
  cases hb'
  refine ⟨b,0,by rw [hu],fun j hj=>?_⟩
  have hc:=p5 hp hall
  obtain ⟨z,hz1,hz2⟩:=hc.get j _ (L01 hj)
  refine ⟨z,⟨by rw [Nat.zero_add];exact O6 hh (by simpa using hz1),?_⟩,?_⟩
  ·rintro (hm | ⟨q,o,hq,ho⟩)
   ·have h1:=h.m0 _ _ hm
    rcases h.old k _ b hk (by rw [hG];rfl) with h2 | ⟨_,h2⟩
    ·omega
    ·omega
   ·obtain ⟨h1,h2⟩:=B13 hq
    exact h2 (h.dis q k _ _ b h1 hk ho.1 (by rw [hG];rfl))
  ·show (cs.getD j (.v undef)).rep _ z
   rw [L07,L01 hj]
   exact Cell.rep_mono hrd _ _ hz2
 ·rw [C8 he] at hi
  exact hs.facts i s hi
set_option maxHeartbeats 1000000
abbrev B58 (ns:List AL.Node) (w:List Int):Ob:=.box [.p (.list AL.Node 8 A68 ns),.p (.list Int 1 F2 w),.mut 821]
abbrev t7 (l:List AL.State):Ob:=.grow 121 AL.State 7 z6 l
abbrev B59:S1:=.one (.ref 820 0)
theorem L5 {K:List Nat} {T rest:Obs} {k:Nat} (hn:C1 rest k=none) (h:∀j x,G4 K j=false→C1 rest j=some x→C1 T j=some x):∀j x,G4 K j=false→C1 rest j=some x→C1 (Obs.drop k T) j=some x:=by
 intro j x hj hx
 have:j≠k:=fun e=>by rw [e,hn] at hx;cases hx
 rw [B33 this]
 exact h j x hj hx
theorem y5 {gf:Fr} {ob:Obs} {ns:List AL.Node} {w:List Int} (l:List AL.State) (q:AL.State) (hl:l.length≤100000) (h0:C1 ob 820=some (B58 ns w)) (h1:C1 ob 821=some (t7 l)) :
  AL.Met Tryz.prog 55 [B59,(J14 q).s1] gf ob [821] (fun rs ob'=>rs=[R5 l.length]∧ob'=(820,B58 ns w)::(821,t7 (l++[q]))::Obs.forget 821 ob):=by
 refine AL.Met.introH Tryz.func55 (by decide) rfl rfl rfl (fun hH=>?_)
 refine D3 (K77 821 (l:=[(0,.s B59),(1,.s (J14 q).s1)]) (L:=[(820,_),(821,_)]) ⟨le1 rfl,le1 rfl,trivial⟩ hH (by repeat (first | exact A8 | refine A9 rfl ?_)) ⟨h0,h1,trivial⟩) ?_
 refine k2 (A3 (A6 (o5 A0 A0 A0) A0 (A7 A0 A0 (A5 ?_))));refine k1 (k2 ?_);refine D3 (K76 (gf':=Fr.forget 821 gf) (l:=[(0,.s B59),(3,.s (.one (.eref Unit 7 (fun _ j=>(cellsOf z6 q 0 7).getD j (.v undef)) () 0)))]) (ob':=[(820,B58 ns w),(821,t7 l)]++Obs.forget 821 ob) ⟨le1 rfl,le1 rfl,trivial⟩ (A82 hH) (by repeat (first | exact A8 | refine A9 rfl ?_)) (fun _ _ h=>h)) ?_
 refine Q0 [10,7] [[],[7],[10,7]] [(7,([821],[9])),(10,([],[]))] [(0,[]),(1,[]),(2,[]),(3,[]),(4,[]),(5,[]),(6,[]),(7,[]),(8,[7]),(9,[7]),(10,[7])] [(0,[7])] (by kernel_rfl) (by kernel_rfl) (E6 A0 A0 (by kernel_rfl) A0 A0 (C2 A0 A0) (E6 A0 A0 (by kernel_rfl) A0 A0 (C2 A0 A0) (E6 A0 A0 (by kernel_rfl) A0 A0 (B2 A0) (E6 A0 A0 (by kernel_rfl) A0 A0 (B0 A0) (E6 A0 A0 (by kernel_rfl) A0 A0 (C5 A0 A0 A0) (E6 A0 A0 (by kernel_rfl) A0 A0 (E1 A0 A0) (E6 A0 A0 (by kernel_rfl) A0 A0 (D7 (c:=z6) (ys:=[q]) (G6 A0 A0 A0 A0 I0) A0 A0 A0) (Z5 A0 A0 (by kernel_rfl) A0 A0 (D84 (fun frc hU=>U3 (T9 hU A0) A0 (T9 hU A0) (.pure _ _ _ _) (by (simp only [L04,L09];omega)) A0)) A0 (E6 A0 A0 (by kernel_rfl) A0 A0 (B2 A0) (E6 A0 A0 (by kernel_rfl) A0 A0 (B0 A0) (Z5 A0 A0 (by kernel_rfl) A0 A0 (A84 (fun frc hU=>B9 TySz.out (T9 hU A0) A0 (T9 hU A0) A0 A0 A0)) A0 ?_)))))))))));refine D85 (ks:=[821]) rfl (by kernel_rfl) rfl ?_ ?_
 ·refine O3 A0 A0 (by kernel_rfl) A0 A0 (C2 A0 A0) ?_;exact C03
 refine k1 (k2 (A3 (A4 A0 A0 (A6 (B2 A0) A0 (A6 (B0 A0) A0 (G3 A0 A0 A0 A0 (A6 (X3 A0 A0) A0 (A6 (N1 A0 A0 (by (simp only [L06,List.length_singleton];omega))) A0 (A7 A0 A0 (A5 ?_))))))))));refine k1 (k10 ?_);refine G7 (I8 rfl rfl) (by repeat (first | exact A8 | refine tail_drop rfl ?_ | refine A9 rfl ?_ | refine P9 _ ?_ | refine D4 _ ?_)) (E4 (L:=[(820,_),(821,_)]) ⟨rfl,rfl,trivial⟩ (by repeat (first | exact D5 | refine D8 rfl ?_ | refine A02 _ ?_))) ⟨?_,rfl⟩
 rw [L06,List.length_singleton]
 congr 5
 omega
section
variable (ns:List AL.Node) (w:List Int)
theorem m7:∀f:Nat,(∀i next st st' r,U7 ns w f i next st=some (st',r)→st.length≤st'.length)∧(∀ks next st st' r,catB ns w f ks next st=some (st',r)→st.length≤st'.length)∧(∀ks next s0 st st' r,H29 ns w f ks next s0 st=some (st',r)→st.length≤st'.length) ∧
  (∀kid m last next st st' r,F62 ns w f kid m last next st=some (st',r)→st.length≤st'.length)∧(∀kid m next st st' r,F63 ns w f kid m next st=some (st',r)→st.length≤st'.length)
 | 0=>⟨(fun _ _ _ _ _ h=>by cases h),(fun _ _ _ _ _ h=>by cases h),(fun _ _ _ _ _ _ h=>by cases h),(fun _ _ _ _ _ _ _ h=>by cases h),(fun _ _ _ _ _ _ h=>by cases h)⟩
 | f + 1=>by
  obtain ⟨hB,hC,hA,hX,hN⟩:=m7 f
  refine ⟨fun i next st st' r h=>?_,fun ks next st st' r h=>?_,fun ks next s0 st st' r h=>?_,fun kid m last next st st' r h=>?_,fun kid m next st st' r h=>?_⟩
  ·rw [U7] at h
   dsimp only at h
   split at h
   ·cases h;exact Nat.le_refl _
   split at h
   ·cases h;simp
   split at h
   ·cases h;simp
   split at h
   ·cases h;simp
   split at h
   ·exact hC _ _ _ _ _ h
   split at h
   ·split at h
    ·cases h
    ·split at h
     ·cases h
     ·rename_i h1
      exact Nat.le_trans (hB _ _ _ _ _ h1) (hA _ _ _ _ _ _ h)
   split at h
   ·split at h
    ·split at h
     ·cases h
     ·rename_i h1
      have h2:=hB _ _ _ _ _ h1
      have h3:=hN _ _ _ _ _ _ h
      rw [L06,List.length_singleton] at h2
      rw [L26] at h3
      omega
    ·split at h
     ·cases h
     ·rename_i h1
      exact Nat.le_trans (hX _ _ _ _ _ _ _ h1) (hN _ _ _ _ _ _ h)
   ·cases h;exact Nat.le_refl _
  ·cases ks with
   | nil=>rw [catB] at h;cases h;exact Nat.le_refl _
   | cons k ks =>
    rw [catB] at h
    split at h
    ·cases h
    ·rename_i h1
     exact Nat.le_trans (hB _ _ _ _ _ h1) (hC _ _ _ _ _ h)
  ·cases ks with
   | nil=>rw [H29] at h;cases h;exact Nat.le_refl _
   | cons k ks =>
    rw [H29] at h
    split at h
    ·cases h
    ·rename_i h1
     have h2:=hB _ _ _ _ _ h1
     have h3:=hA _ _ _ _ _ _ h
     rw [L06,List.length_singleton] at h3
     omega
  ·cases m with
   | zero=>rw [F62] at h;cases h;exact Nat.le_refl _
   | succ m =>
    rw [F62] at h
    split at h
    ·cases h
    ·rename_i h1
     have h2:=hB _ _ _ _ _ h1
     have h3:=hX _ _ _ _ _ _ _ h
     rw [L06,List.length_singleton] at h3
     omega
  ·cases m with
   | zero=>rw [F63] at h;cases h;exact Nat.le_refl _
   | succ m =>
    rw [F63] at h
    split at h
    ·cases h
    ·rename_i h1
     exact Nat.le_trans (hB _ _ _ _ _ h1) (hN _ _ _ _ _ _ h)
end
def F24 (ns:List AL.Node) (w:List Int) (f:Nat):Prop:=∀(i:Int) (next:Int) (st st':List AL.State) (r:Int),U7 ns w f i next st=some (st',r)→(0≤i∧i < ns.length)→st'.length≤20000 →
 ∀{gf:Fr} {ob:Obs},C1 ob 820=some (B58 ns w)→C1 ob 821=some (t7 st)→C1 ob 824=none →
  AL.Met Tryz.prog 56 [B59,R5 i,R5 next] gf ob [821,824] (fun rs ob'=>rs=[R5 r]∧ob'=(820,B58 ns w)::(821,t7 st')::G8 [821,824] ob)
theorem taker {ks:List Int} {j:Nat} {k:Int} (h:ks[j]?=some k):(ks.take (j+1)).reverse=k::(ks.take j).reverse:=by
 rw [List.take_add_one,h,Option.toList_some,List.reverse_append];rfl
theorem I80 {ns:List AL.Node} {w:List Int} {F:Nat} (IH:∀g,g≤F→F24 ns w g) (ks:List Int) (next:Int) (st st1 st':List AL.State) (s0 r k:Int) (kr:List Int) (hk:ks.reverse=k::kr) (hks:∀k∈ks,0≤k∧k < ns.length) (hkl:ks.length≤4000) (hb:U7 ns w F k next st=some (st1,s0)) (ha:H29 ns w F kr next s0 st1=some (st',r)) (hl:st'.length≤20000)
  {gf:Fr} {ob:Obs} (h0:C1 ob 820=some (B58 ns w)) (h1:C1 ob 821=some (t7 st)) (h2:C1 ob 824=none) :
  AL.Met Tryz.prog 84 [B59,.one (.p (.list Int 1 F2 ks)),R5 next] gf ob [821,824] (fun rs ob'=>rs=[R5 r]∧ob'=(820,B58 ns w)::(821,t7 st')::G8 [821,824] ob):=by
 have hlen:ks.length=kr.length+1:=by have:=congrArg List.length hk;rwa [L44,L04] at this
 have hkr:kr=(ks.take kr.length).reverse:=by
  have h3:ks=kr.reverse++[k]:=by rw [←List.reverse_reverse ks,hk,List.reverse_cons]
  rw [h3,List.take_append_of_le_length (by simp),L31 (by simp),List.reverse_reverse]
 have hkv:ks[(((ks.length:Nat):Int) - 1).toNat]?=some k:=by
  have h3:ks=kr.reverse++[k]:=by rw [←List.reverse_reverse ks,hk,List.reverse_cons]
  rw [show (((ks.length:Nat):Int) - 1).toNat=kr.reverse.length by rw [L44];omega,h3]
  exact List.getElem?_concat_length
 have hm1:=(m7 ns w F).2.2.1 _ _ _ _ _ _ ha
 refine AL.Met.introH Tryz.func84 (by decide) rfl rfl rfl (fun hH=>?_)
 refine D3 (K77 821 (l:=[(0,.s B59),(1,D6 Int 1 F2 ks),(2,.s (R5 next))]) (L:=[(820,_),(821,_)]) ⟨le1 rfl,le1 rfl,le1 rfl,trivial⟩ hH (by repeat (first | exact A8 | refine A9 rfl ?_)) ⟨h0,h1,trivial⟩) ?_
 refine D3 (Sees.forget 824) ?_
 have hf3:C1 (G8 [821,824] ob) 824=none:=W8 h2
 refine D3 (K76 (gf':=C0 [821,824] gf) (l:=[(0,.s B59),(1,D6 Int 1 F2 ks),(2,.s (R5 next))]) (ob':=[(820,B58 ns w),(821,t7 st)]++G8 [821,824] ob) ⟨le1 rfl,le1 rfl,le1 rfl,trivial⟩ (C6 hH) (by repeat (first | exact A8 | refine tail_drop rfl ?_ | refine A9 rfl ?_ | refine F8 _ rfl ?_)) (E4 (L:=[(820,_),(821,_)]) ⟨rfl,rfl,trivial⟩ (by repeat (first | exact D5 | refine D8 rfl ?_)))) ?_
 refine k2 (A3 (A7 A0 A0 (A5 ?_)));refine k1 (k2 (A3 (A4 A0 A0 (F4 A0 A0 (A6 (N1 A0 A0 (by omega)) A0 (A7 A0 A0 (A5 ?_)))))));refine k1 (k2 (A3 (A4 A0 A0 (A4 A0 A0 (A4 A0 A0 (A6 (B6 A0 (.pure _ _ _ _) A0 (by omega) hkv) A0 (A6 (B3 A0 A0) A0 (A4 A0 A0 (L4 (IH F (Nat.le_refl _) k next st st1 s0 hb (hks k (L14 hkv)) (by omega) A0 A0 hf3) A0 A0 A0 ?_)))))))));rintro _ _ ⟨rfl,rfl⟩;refine A7 A0 A0 (A5 ?_);refine k1 (k2 (k2 (A3 (A4 A0 A0 (A6 (N1 A0 A0 (by omega)) A0 (A7 A0 A0 (A5 ?_)))))));refine k1 (k3 ?_);refine D2 (X:=Nat × Nat × Int × List AL.State) (fun x=>([(0,.s B59),(1,D6 Int 1 F2 ks),(2,.s (R5 next)),(8,C7 x.2.2.1),(9,C7 ((x.2.1:Int) - 1))]++C0 [821,824] gf,[(820,B58 ns w),(821,t7 x.2.2.2)]++G8 [821,824] ob)) (fun x=>x.1≤F∧x.2.1≤kr.length∧H29 ns w x.1 (ks.take x.2.1).reverse next x.2.2.1 x.2.2.2=some (st',r)) (fun x=>x.2.1) (F,kr.length,s0,st1) ⟨Nat.le_refl _,Nat.le_refl _,by dsimp only;rw [←hkr];exact ha⟩ ?_ ?_
 ·dsimp only
  rw [show ((kr.length:Int) - 1)=((ks.length:Int) - 1 - 1) by omega]
  exact K76 ⟨le1 rfl,le1 rfl,le1 rfl,le1 rfl,le1 rfl,trivial⟩ (C6 hH) (by repeat (first | exact A8 | refine tail_drop rfl ?_ | refine A9 rfl ?_ | refine F8 _ rfl ?_)) (E4 (L:=[(820,_),(821,_)]) ⟨rfl,rfl,trivial⟩ (by repeat (first | exact D5 | refine D8 rfl ?_ | refine D9 hf3 ?_ | refine M5 _ rfl ?_ | refine L5 hf3 ?_)))
 rintro ⟨f,c,s1,sx⟩ ⟨hf,hc,hA⟩
 dsimp only at hf hc hA ⊢
 refine k2 (k2 (A3 (A4 A0 A0 (A6 (V2 A0 A0) A0 (A5 ?_)))));refine k1 ?_;refine B1 rfl (fun ht=>?_) (fun ht=>?_)
 rotate_left
 ·have hc0:c=0:=by have:=A2 ht;omega
  subst hc0
  have hf0:f≠0:=fun e=>by rw [e] at hA;cases hA
  obtain ⟨f,rfl⟩:∃g,f=g+1:=⟨f - 1,by omega⟩
  rw [List.take_zero,List.reverse_nil,H29] at hA
  cases hA
  refine k6 (k2 (A3 (A4 A0 A0 (A7 A0 A0 (A5 ?_)))));refine k1 (k10 ?_)
  exact G7 (I8 rfl rfl) (by repeat (first | exact A8 | refine tail_drop rfl ?_ | refine A9 rfl ?_ | refine F8 _ rfl ?_)) (E4 (L:=[(820,_),(821,_)]) ⟨rfl,rfl,trivial⟩ (by repeat (first | exact D5 | refine D8 rfl ?_ | refine D9 hf3 ?_ | refine M5 _ rfl ?_ | refine L5 hf3 ?_))) ⟨rfl,rfl⟩
 have hcp:0 < c:=by have:=A1 ht;omega
 obtain ⟨c,rfl⟩:∃g,c=g+1:=⟨c - 1,by omega⟩
 obtain ⟨kc,hkc⟩:∃kc,kc=ks[c]'(by omega):=⟨_,rfl⟩
 have hkv2:ks[c]?=some kc:=by rw [hkc];exact L01 (by omega)
 have hkv3:ks[(((c+1:Nat):Int) - 1).toNat]?=some kc:=by rw [show (((c+1:Nat):Int) - 1).toNat=c by omega];exact hkv2
 rw [taker hkv2] at hA
 have hf0:f≠0:=fun e=>by rw [e] at hA;cases hA
 obtain ⟨f,rfl⟩:∃g,f=g+1:=⟨f - 1,by omega⟩
 rw [H29] at hA
 cases hbk:U7 ns w f kc next sx with
 | none=>rw [hbk] at hA;cases hA
 | some y =>
  obtain ⟨sy,b⟩:=y
  rw [hbk] at hA
  dsimp only at hA
  have hm2:=(m7 ns w f).2.2.1 _ _ _ _ _ _ hA
  rw [L06,List.length_singleton] at hm2
  refine k5 (k1 (k2 (k3 (A3 (A4 A0 A0 (A4 A0 A0 (A4 A0 A0 (A4 A0 A0 (A6 (B6 A0 (.pure _ _ _ _) A0 (by omega) hkv3) A0 (A6 (B3 A0 A0) A0 (A4 A0 A0 (L4 (IH f (by omega) kc next sx sy b hbk (hks kc (L14 hkv2)) (by omega) A0 A0 hf3) A0 A0 A0 ?_))))))))))));rintro _ _ ⟨rfl,rfl⟩;refine A4 A0 A0 (A6 (K0 A0) A0 (L4 (y5 sy ⟨1,⟨0,0,0,0⟩,b,s1⟩ (by omega) A0 A0) A0 A0 A0 ?_));rintro _ _ ⟨rfl,rfl⟩;refine A7 A0 A0 (A5 ?_);refine k4 (k1 (A3 (A4 A0 A0 (A6 (N1 A0 A0 (by omega)) A0 (A7 A0 A0 (A5 ?_))))));refine k1 ?_;refine ⟨(f,c,(sy.length:Int),sy++[⟨1,⟨0,0,0,0⟩,b,s1⟩]),⟨by dsimp only;omega,by dsimp only;omega,hA⟩,by dsimp only;omega,?_⟩
  dsimp only
  rw [show ((c:Int) - 1)=(((c+1:Nat):Int) - 1 - 1) by omega]
  exact K76 ⟨le1 rfl,le1 rfl,le1 rfl,le1 rfl,le1 rfl,trivial⟩ (C6 hH) (by repeat (first | exact A8 | refine tail_drop rfl ?_ | refine A9 rfl ?_ | refine F8 _ rfl ?_)) (E4 (L:=[(820,_),(821,_)]) ⟨rfl,rfl,trivial⟩ (by repeat (first | exact D5 | refine D8 rfl ?_ | refine D9 hf3 ?_ | refine M5 _ rfl ?_ | refine L5 hf3 ?_)))
theorem H85 {ns:List AL.Node} {w:List Int} {F:Nat} (IH:∀g,g≤F→F24 ns w g) (n:AL.Node) (kid next:Int) (st st0 stM st':List AL.State) (nx nM r:Int) (hk0:n.Kids[(0:Int).toNat]?=some kid) (hki:0≤kid∧kid < ns.length) (hb1:0≤n.Min∧n.Min≤100∧(n.Max = -1∨n.Min≤n.Max∧n.Max≤100))
  (hlo:n.Max < 0→∃sa a,U7 ns w F kid st.length (st++[⟨1,⟨0,0,0,0⟩,0,next⟩])=some (sa,a)∧st0=sa.set st.length { (sa.getD st.length z7) with Next:=a }∧nx=st.length) (hhi:¬n.Max < 0→st0=st∧nx=next)
  (hmx:F62 ns w F kid (n.Max - n.Min).toNat nx nx st0=some (stM,nM)) (hmn:F63 ns w F kid n.Min.toNat nM stM=some (st',r)) (hl:st'.length≤20000)
  {gf:Fr} {ob:Obs} (h0:C1 ob 820=some (B58 ns w)) (h1:C1 ob 821=some (t7 st)) (h2:C1 ob 824=none) :
  AL.Met Tryz.prog 85 [B59,(D67 n).s1,R5 next] gf ob [821,824] (fun rs ob'=>rs=[R5 r]∧ob'=(820,B58 ns w)::(821,t7 st')::G8 [821,824] ob):=by
 have hm1:=(m7 ns w F).2.2.2.2 _ _ _ _ _ _ hmn
 have hm2:=(m7 ns w F).2.2.2.1 _ _ _ _ _ _ _ hmx
 refine AL.Met.introH Tryz.func85 (by decide) rfl rfl rfl (fun hH=>?_)
 refine D3 (K77 821 (l:=[(0,.s B59),(1,.s (D67 n).s1),(2,.s (R5 next))]) (L:=[(820,_),(821,_)]) ⟨le1 rfl,le1 rfl,le1 rfl,trivial⟩ hH (by repeat (first | exact A8 | refine A9 rfl ?_)) ⟨h0,h1,trivial⟩) ?_
 refine D3 (Sees.forget 824) ?_
 have hf3:C1 (G8 [821,824] ob) 824=none:=W8 h2
 refine D3 (K76 (gf':=C0 [821,824] gf) (l:=[(0,.s B59),(1,.s (D67 n).s1),(2,.s (R5 next))]) (ob':=[(820,B58 ns w),(821,t7 st)]++G8 [821,824] ob) ⟨le1 rfl,le1 rfl,le1 rfl,trivial⟩ (C6 hH) (by repeat (first | exact A8 | refine tail_drop rfl ?_ | refine A9 rfl ?_ | refine F8 _ rfl ?_)) (E4 (L:=[(820,_),(821,_)]) ⟨rfl,rfl,trivial⟩ (by repeat (first | exact D5 | refine D8 rfl ?_)))) ?_
 refine k2 (A3 (A6 (o5 A0 A0 A0) A0 (A7 A0 A0 (A5 ?_))));refine k1 (k2 (A3 (A6 (C3 A0) A0 (A6 (B3 A0 A0) A0 (A6 (B6 A0 (.pure _ _ _ _) A0 (by omega) hk0) A0 (A6 (B3 A0 A0) A0 (A7 A0 A0 (A5 ?_))))))));refine k1 (k2 (k2 (A3 (A6 (C3 A0) A0 (A6 (B3 A0 A0) A0 (F7 A0 A0 A0 (A5 ?_)))))));refine k1 ?_;refine A87 ([(0,.s B59),(2,C7 nx),(4,.s (.one (.eref Unit 8 (fun _ j=>(cellsOf A68 n 0 8).getD j (.v undef)) () 0))),(7,C7 kid)]++C0 [821,824] gf) ([(820,B58 ns w),(821,t7 st0)]++G8 [821,824] ob) ?_ ?_
 ·skip
  refine B1 rfl (fun ht=>?_) (fun ht=>?_)
  ·obtain ⟨sa,a,hba,e0,e1⟩:=hlo (A1 ht)
   subst e0 e1
   have hm3:=(m7 ns w F).1 _ _ _ _ _ hba
   rw [L06,List.length_singleton] at hm3
   rw [L26] at hm2
   refine k2 (A3 (A4 A0 A0 (A4 A0 A0 (A6 (K0 A0) A0 (L4 (y5 st ⟨1,⟨0,0,0,0⟩,0,next⟩ (by omega) A0 A0) A0 A0 A0 ?_)))));rintro _ _ ⟨rfl,rfl⟩;refine A7 A0 A0 (A5 ?_);refine k1 (k2 ?_)
   have hf4:C1 (Obs.forget 821 (G8 [821,824] ob)) 824=none:=by rw [K6,hf3];rfl
   refine A3 (A4 A0 A0 (A4 A0 A0 (A4 A0 A0 (L4 (IH F (Nat.le_refl _) kid st.length (st++[⟨1,⟨0,0,0,0⟩,0,next⟩]) sa a hba hki (by omega) A0 A0 hf4) A0 A0 A0 ?_))));rintro _ _ ⟨rfl,rfl⟩;refine A7 A0 A0 (A5 ?_);refine k1 (k2 ?_)
   have hv2:sa[((st.length:Nat):Int).toNat]?=some (sa.getD st.length z7):=by
    rw [L03,L07,L01 (by omega)];rfl
   refine D3 (K76 (gf':=C0 [821,824] gf) (l:=[(0,.s B59),(4,.s (.one (.eref Unit 8 (fun _ j=>(cellsOf A68 n 0 8).getD j (.v undef)) () 0))),(7,C7 kid),(8,C7 st.length),(9,C7 a)]) (ob':=[(820,B58 ns w),(821,t7 sa)]++G8 [821,824] ob) ⟨le1 rfl,le1 rfl,le1 rfl,le1 rfl,le1 rfl,trivial⟩ (C6 hH) (by repeat (first | exact A8 | refine tail_drop rfl ?_ | refine A9 rfl ?_ | refine F8 _ rfl ?_)) (E4 (L:=[(820,_),(821,_)]) ⟨rfl,rfl,trivial⟩ (by repeat (first | exact D5 | refine D8 rfl ?_ | refine D9 hf3 ?_ | refine M5 _ rfl ?_ | refine L5 hf3 ?_)))) ?_
   refine A3 (A4 A0 A0 (A6 (B2 A0) A0 (A6 (B0 A0) A0 (G3 A0 A0 A0 A0 (A4 A0 A0 (A4 A0 A0 (A6 (H6 A0 A0 A0 (by omega) (by omega)) A0 (A6 (G59 A0) A0 (G1 (x9 ({ (sa.getD st.length z7) with Next:=a }) TySz.out A0 A0 hv2 A0 A0 A0 A0 (fun _ _ _ h=>s8 h) (by intro j h1 h2;rcases j with _ | _ | _ | _ | _ | _ | _ | j<;>first | rfl | omega)) ?_)))))))));refine A5 ?_;refine k1 (A3 (A4 A0 A0 (A7 A0 A0 (A5 ?_))));refine k1 ?_
   exact K76 ⟨le1 rfl,le1 rfl,le1 rfl,le1 rfl,trivial⟩ (C6 hH) (by repeat (first | exact A8 | refine tail_drop rfl ?_ | refine A9 rfl ?_ | refine F8 _ rfl ?_)) (E4 (L:=[(820,_),(821,_)]) ⟨rfl,rfl,trivial⟩ (by repeat (first | exact D5 | refine D8 rfl ?_ | refine D9 hf3 ?_ | refine M5 _ rfl ?_ | refine L5 hf3 ?_)))
  ·obtain ⟨e0,e1⟩:=hhi (A2 ht)
   subst e0 e1
   refine k5 (k1 ?_)
   exact K76 ⟨le1 rfl,le1 rfl,le1 rfl,le1 rfl,trivial⟩ (C6 hH) (by repeat (first | exact A8 | refine tail_drop rfl ?_ | refine A9 rfl ?_ | refine F8 _ rfl ?_)) (E4 (L:=[(820,_),(821,_)]) ⟨rfl,rfl,trivial⟩ (by repeat (first | exact D5 | refine D8 rfl ?_ | refine D9 hf3 ?_ | refine M5 _ rfl ?_ | refine L5 hf3 ?_)))
 refine k2 (A3 (A4 A0 A0 (A7 A0 A0 (A5 ?_))));refine k1 (k2 (k2 (A3 (A6 (C3 A0) A0 (A6 (B3 A0 A0) A0 (A6 (C3 A0) A0 (A6 (B3 A0 A0) A0 (A6 (N1 A0 A0 (by omega)) A0 (A4 A0 A0 (A5 ?_))))))))));refine k1 (k3 ?_);refine D2 (X:=Nat × Nat × Int × List AL.State) (fun x=>([(0,.s B59),(2,C7 x.2.2.1),(4,.s (.one (.eref Unit 8 (fun _ j=>(cellsOf A68 n 0 8).getD j (.v undef)) () 0))),(7,C7 kid),(10,C7 nx),(40,C7 (n.Max - n.Min)),(41,C7 (((n.Max - n.Min).toNat:Int) - x.2.1))]++C0 [821,824] gf,[(820,B58 ns w),(821,t7 x.2.2.2)]++G8 [821,824] ob)) (fun x=>x.1≤F∧x.2.1≤(n.Max - n.Min).toNat∧F62 ns w x.1 kid x.2.1 nx x.2.2.1 x.2.2.2=some (stM,nM)) (fun x=>x.2.1) (F,(n.Max - n.Min).toNat,nx,st0) ⟨Nat.le_refl _,Nat.le_refl _,hmx⟩ ?_ ?_
 ·dsimp only
  rw [Int.sub_self]
  exact K76 ⟨le1 rfl,le1 rfl,le1 rfl,le1 rfl,le1 rfl,le1 rfl,le1 rfl,trivial⟩ (C6 hH) (by repeat (first | exact A8 | refine tail_drop rfl ?_ | refine A9 rfl ?_ | refine F8 _ rfl ?_)) (E4 (L:=[(820,_),(821,_)]) ⟨rfl,rfl,trivial⟩ (by repeat (first | exact D5 | refine D8 rfl ?_ | refine D9 hf3 ?_ | refine M5 _ rfl ?_ | refine L5 hf3 ?_)))
 rintro ⟨f,c,s1,sx⟩ ⟨hf,hc,hA⟩
 dsimp only at hf hc hA ⊢
 have hf0:f≠0:=fun e=>by rw [e] at hA;cases hA
 obtain ⟨f,rfl⟩:∃g,f=g+1:=⟨f - 1,by omega⟩
 refine k2 (A3 (F7 A0 A0 A0 (A5 ?_)));refine k1 (k2 ?_);refine B1 rfl (fun ht=>?_) (fun ht=>?_)
 ·have hcp:0 < c:=by have:=A1 ht;omega
  obtain ⟨c,rfl⟩:∃g,c=g+1:=⟨c - 1,by omega⟩
  rw [F62] at hA
  cases hbk:U7 ns w f kid s1 sx with
  | none=>rw [hbk] at hA;cases hA
  | some y =>
   obtain ⟨sy,b⟩:=y
   rw [hbk] at hA
   dsimp only at hA
   have hm4:=(m7 ns w f).2.2.2.1 _ _ _ _ _ _ _ hA
   rw [L06,List.length_singleton] at hm4
   refine k5 (k1 (k2 (k3 (A3 (A4 A0 A0 (A4 A0 A0 (A4 A0 A0 (A4 A0 A0 (L4 (IH f (by omega) kid s1 sx sy b hbk hki (by omega) A0 A0 hf3) A0 A0 A0 ?_)))))))));rintro _ _ ⟨rfl,rfl⟩;refine A4 A0 A0 (A6 (K0 A0) A0 (L4 (y5 sy ⟨1,⟨0,0,0,0⟩,b,nx⟩ (by omega) A0 A0) A0 A0 A0 ?_));rintro _ _ ⟨rfl,rfl⟩;refine A7 A0 A0 (A5 ?_);refine k4 (k1 (A3 (E3 A0 A0 A0 (A4 A0 A0 (A5 ?_)))));refine k1 ?_;refine ⟨(f,c,(sy.length:Int),sy++[⟨1,⟨0,0,0,0⟩,b,nx⟩]),⟨by dsimp only;omega,by dsimp only;omega,hA⟩,by dsimp only;omega,?_⟩
   dsimp only
   rw [show (((n.Max - n.Min).toNat:Int) - (c:Int))=((n.Max - n.Min).toNat:Int) - ((c+1:Nat):Int)+1 by omega]
   exact K76 ⟨le1 rfl,le1 rfl,le1 rfl,le1 rfl,le1 rfl,le1 rfl,le1 rfl,trivial⟩ (C6 hH) (by repeat (first | exact A8 | refine tail_drop rfl ?_ | refine A9 rfl ?_ | refine F8 _ rfl ?_)) (E4 (L:=[(820,_),(821,_)]) ⟨rfl,rfl,trivial⟩ (by repeat (first | exact D5 | refine D8 rfl ?_ | refine D9 hf3 ?_ | refine M5 _ rfl ?_ | refine L5 hf3 ?_)))
 have hc0:c=0:=by have:=A2 ht;omega
 subst hc0
 rw [F62] at hA
 cases hA
 refine k6 (k2 (k2 (A3 (A6 (C3 A0) A0 (A6 (B3 A0 A0) A0 (A4 A0 A0 (A5 ?_)))))));refine k1 (k3 ?_);refine D2 (X:=Nat × Nat × Int × List AL.State) (fun x=>([(0,.s B59),(2,C7 x.2.2.1),(7,C7 kid),(53,C7 n.Min),(54,C7 (n.Min - x.2.1))]++C0 [821,824] gf,[(820,B58 ns w),(821,t7 x.2.2.2)]++G8 [821,824] ob)) (fun x=>x.1≤F∧x.2.1≤n.Min.toNat∧F63 ns w x.1 kid x.2.1 x.2.2.1 x.2.2.2=some (st',r)) (fun x=>x.2.1) (F,n.Min.toNat,nM,stM) ⟨Nat.le_refl _,Nat.le_refl _,hmn⟩ ?_ ?_
 ·dsimp only
  rw [show n.Min - (n.Min.toNat:Int)=0 by omega]
  exact K76 ⟨le1 rfl,le1 rfl,le1 rfl,le1 rfl,le1 rfl,trivial⟩ (C6 hH) (by repeat (first | exact A8 | refine tail_drop rfl ?_ | refine A9 rfl ?_ | refine F8 _ rfl ?_)) (E4 (L:=[(820,_),(821,_)]) ⟨rfl,rfl,trivial⟩ (by repeat (first | exact D5 | refine D8 rfl ?_ | refine D9 hf3 ?_ | refine M5 _ rfl ?_ | refine L5 hf3 ?_)))
 rintro ⟨f,c,s1,sx⟩ ⟨hf,hc,hA⟩
 dsimp only at hf hc hA ⊢
 have hf0:f≠0:=fun e=>by rw [e] at hA;cases hA
 obtain ⟨f,rfl⟩:∃g,f=g+1:=⟨f - 1,by omega⟩
 refine k2 (A3 (F7 A0 A0 A0 (A5 ?_)));refine k1 (k2 ?_);refine B1 rfl (fun ht=>?_) (fun ht=>?_)
 ·have hcp:0 < c:=by have:=A1 ht;omega
  obtain ⟨c,rfl⟩:∃g,c=g+1:=⟨c - 1,by omega⟩
  rw [F63] at hA
  cases hbk:U7 ns w f kid s1 sx with
  | none=>rw [hbk] at hA;cases hA
  | some y =>
   obtain ⟨sy,b⟩:=y
   rw [hbk] at hA
   dsimp only at hA
   have hm4:=(m7 ns w f).2.2.2.2 _ _ _ _ _ _ hA
   refine k5 (k1 (k2 (k3 (A3 (A4 A0 A0 (A4 A0 A0 (A4 A0 A0 (L4 (IH f (by omega) kid s1 sx sy b hbk hki (by omega) A0 A0 hf3) A0 A0 A0 ?_))))))));rintro _ _ ⟨rfl,rfl⟩;refine A7 A0 A0 (A5 ?_);refine k4 (k1 (A3 (E3 A0 A0 A0 (A4 A0 A0 (A5 ?_)))));refine k1 ?_;refine ⟨(f,c,b,sy),⟨by dsimp only;omega,by dsimp only;omega,hA⟩,by dsimp only;omega,?_⟩
   dsimp only
   rw [show (n.Min - (c:Int))=n.Min - ((c+1:Nat):Int)+1 by omega]
   exact K76 ⟨le1 rfl,le1 rfl,le1 rfl,le1 rfl,le1 rfl,trivial⟩ (C6 hH) (by repeat (first | exact A8 | refine tail_drop rfl ?_ | refine A9 rfl ?_ | refine F8 _ rfl ?_)) (E4 (L:=[(820,_),(821,_)]) ⟨rfl,rfl,trivial⟩ (by repeat (first | exact D5 | refine D8 rfl ?_ | refine D9 hf3 ?_ | refine M5 _ rfl ?_ | refine L5 hf3 ?_)))
 have hc0:c=0:=by have:=A2 ht;omega
 subst hc0
 rw [F63] at hA
 cases hA
 refine k6 (k2 (A3 (A4 A0 A0 (A7 A0 A0 (A5 ?_)))));refine k1 (k10 ?_)
 exact G7 (I8 rfl rfl) (by repeat (first | exact A8 | refine tail_drop rfl ?_ | refine A9 rfl ?_ | refine F8 _ rfl ?_)) (E4 (L:=[(820,_),(821,_)]) ⟨rfl,rfl,trivial⟩ (by repeat (first | exact D5 | refine D8 rfl ?_ | refine D9 hf3 ?_ | refine M5 _ rfl ?_ | refine L5 hf3 ?_))) ⟨rfl,rfl⟩
theorem I81 {ns:List AL.Node} {w:List Int} {F:Nat} (hc:B25 ns=0) (hkl:∀n∈ns,n.Kids.length≤4000) (hwl:w.length=ns.length) (IH:∀g,g≤F→F24 ns w g):F24 ns w (F+1):=by
 obtain ⟨hl1,hl2,hfit⟩:=A53 hc
 intro i next st st' r hB hi hl gf ob h0 h1 h2
 obtain ⟨n,hn⟩:∃n,n=ns[i.toNat]'(by omega):=⟨_,rfl⟩
 have hv:ns[i.toNat]?=some n:=by rw [hn];exact L01 (by omega)
 obtain ⟨hki,hX⟩:=B56 (hfit i.toNat n hv)
 have hks:∀k∈n.Kids,0≤k∧k < ns.length:=fun k hk=>by have:=hki k hk;omega
 have hkn:=hkl n (L14 hv)
 have hgd:ns.getD i.toNat A36=n:=by rw [L07,hv];rfl
 have hwv:w[i.toNat]?=some (atG w i.toNat):=by unfold atG;rw [L01 (by omega)];rfl
 have hmono:=(m7 ns w (F+1)).1 _ _ _ _ _ hB
 rw [U7,hgd] at hB
 dsimp only at hB
 refine AL.Met.introH Tryz.func56 (by decide) rfl rfl rfl (fun hH=>?_)
 refine D3 (K77 821 (l:=[(0,.s B59),(1,.s (R5 i)),(2,.s (R5 next))]) (L:=[(820,_),(821,_)]) ⟨le1 rfl,le1 rfl,le1 rfl,trivial⟩ hH (by repeat (first | exact A8 | refine A9 rfl ?_)) ⟨h0,h1,trivial⟩) ?_
 refine D3 (Sees.forget 824) ?_
 have hf3:C1 (G8 [821,824] ob) 824=none:=W8 h2
 refine D3 (K76 (gf':=C0 [821,824] gf) (l:=[(0,.s B59),(1,.s (R5 i)),(2,.s (R5 next))]) (ob':=[(820,B58 ns w),(821,t7 st)]++G8 [821,824] ob) ⟨le1 rfl,le1 rfl,le1 rfl,trivial⟩ (C6 hH) (by repeat (first | exact A8 | refine tail_drop rfl ?_ | refine A9 rfl ?_ | refine F8 _ rfl ?_)) (E4 (L:=[(820,_),(821,_)]) ⟨rfl,rfl,trivial⟩ (by repeat (first | exact D5 | refine D8 rfl ?_)))) ?_
 refine k2 (A3 (A7 A0 A0 (A5 ?_)));refine k1 (k2 (k2 (A3 (A4 A0 A0 (A6 (B2 A0) A0 (A6 (B0 A0) A0 (G3 A0 A0 A0 A0 (A4 A0 A0 (A6 (B6 A0 (.pure _ _ _ _) A0 (by omega) hwv) A0 (A6 (B3 A0 A0) A0 (A6 (H0 A0 A0) A0 (A5 ?_))))))))))));refine k1 ?_;refine B1 rfl (fun ht=>?_) (fun ht=>?_)
 ·rw [if_pos (A1 ht)] at hB
  cases hB
  refine k2 (A3 (A4 A0 A0 (A7 A0 A0 (A5 ?_))));refine k1 (k10 (k11 ?_))
  exact G7 (I8 rfl rfl) (by repeat (first | exact A8 | refine tail_drop rfl ?_ | refine A9 rfl ?_ | refine F8 _ rfl ?_)) (E4 (L:=[(820,_),(821,_)]) ⟨rfl,rfl,trivial⟩ (by repeat (first | exact D5 | refine D8 rfl ?_ | refine D9 hf3 ?_ | refine M5 _ rfl ?_ | refine L5 hf3 ?_))) ⟨rfl,rfl⟩
 rw [if_neg (A2 ht)] at hB
 refine k5 (k1 (k2 (A3 (A4 A0 A0 (A6 (B2 A0) A0 (A6 (B0 A0) A0 (G3 A0 A0 A0 A0 (A4 A0 A0 (A6 (B6 A0 (.pure _ _ _ _) A0 (by omega) hv) A0 (A6 (E1 A0 A0) A0 (D1 (A78 824 hf3 (by decide)) A0 (G1 (B9 TySz.out A0 A0 A0 A0 A0 A0) (A5 ?_)))))))))))));refine k1 (D3 (K87 (t:=7) (k:=824) (cs:=cellsOf A68 n 0 8) A0 A0 A0 A0) ?_)
 refine D3 (K76 (gf':=C0 [821,824] gf) (l:=[(0,.s B59),(1,.s (R5 i)),(2,.s (R5 next)),(7,.s (.one (.eref Unit 8 (fun _ j=>(cellsOf A68 n 0 8).getD j (.v undef)) () 0)))]) (ob':=[(820,B58 ns w),(821,t7 st)]++G8 [821,824] ob) ⟨le1 rfl,le1 rfl,le1 rfl,le1 rfl,trivial⟩ (C6 hH) (by repeat (first | exact A8 | refine tail_drop rfl ?_ | refine A9 rfl ?_ | refine F8 _ rfl ?_)) (E4 (L:=[(820,_),(821,_)]) ⟨rfl,rfl,trivial⟩ (by repeat (first | exact D5 | refine D8 rfl ?_ | refine D9 hf3 ?_ | refine M5 _ rfl ?_ | refine L5 hf3 ?_)))) ?_
 refine k2 (k2 (A3 (A6 (C3 A0) A0 (A6 (B3 A0 A0) A0 (A5 ?_)))));refine k1 (k3 (k2 (A3 (A6 (H0 A0 A0) A0 (A7 A0 A0 (A5 ?_))))));refine k1 ?_;refine B1 rfl (fun ht=>?_) (fun ht=>?_)
 ·have hK:=A1 ht
  rw [if_pos hK] at hB
  cases hB
  refine k2 (A3 (A4 A0 A0 (A6 (C3 A0) A0 (A6 (E1 A0 A0) A0 (A4 A0 A0 (A6 (K0 A0) A0 (L4 (y5 st ⟨0,n.Set,next,0⟩ (by simp only [L06,List.length_singleton] at hl;omega) A0 A0) A0 A0 A0 ?_)))))));rintro _ _ ⟨rfl,rfl⟩;refine A7 A0 A0 (A5 ?_);refine k1 (k10 (k12 (k11 ?_)))
  exact G7 (I8 rfl rfl) (by repeat (first | exact A8 | refine tail_drop rfl ?_ | refine A9 rfl ?_ | refine F8 _ rfl ?_)) (E4 (L:=[(820,_),(821,_)]) ⟨rfl,rfl,trivial⟩ (by repeat (first | exact D5 | refine D8 rfl ?_ | refine D9 hf3 ?_ | refine M5 _ rfl ?_ | refine L5 hf3 ?_))) ⟨rfl,rfl⟩
 have hK1:=A2 ht
 rw [if_neg hK1] at hB
 refine k2 (A3 (A6 (H0 A0 A0) A0 (A7 A0 A0 (A5 ?_))));refine k1 ?_;refine B1 rfl (fun ht=>?_) (fun ht=>?_)
 ·have hK:=A1 ht
  rw [if_pos hK] at hB
  cases hB
  refine k2 (A3 (A4 A0 A0 (A4 A0 A0 (A6 (K0 A0) A0 (L4 (y5 st ⟨2,⟨0,0,0,0⟩,next,0⟩ (by simp only [L06,List.length_singleton] at hl;omega) A0 A0) A0 A0 A0 ?_)))));rintro _ _ ⟨rfl,rfl⟩;refine A7 A0 A0 (A5 ?_);refine k1 (k10 (k12 (k11 ?_)))
  exact G7 (I8 rfl rfl) (by repeat (first | exact A8 | refine tail_drop rfl ?_ | refine A9 rfl ?_ | refine F8 _ rfl ?_)) (E4 (L:=[(820,_),(821,_)]) ⟨rfl,rfl,trivial⟩ (by repeat (first | exact D5 | refine D8 rfl ?_ | refine D9 hf3 ?_ | refine M5 _ rfl ?_ | refine L5 hf3 ?_))) ⟨rfl,rfl⟩
 have hK2:=A2 ht
 rw [if_neg hK2] at hB
 refine k2 (A3 (A6 (H0 A0 A0) A0 (A7 A0 A0 (A5 ?_))));refine k1 ?_;refine B1 rfl (fun ht=>?_) (fun ht=>?_)
 ·have hK:=A1 ht
  rw [if_pos hK] at hB
  cases hB
  refine k2 (A3 (A4 A0 A0 (A4 A0 A0 (A6 (K0 A0) A0 (L4 (y5 st ⟨3,⟨0,0,0,0⟩,next,0⟩ (by simp only [L06,List.length_singleton] at hl;omega) A0 A0) A0 A0 A0 ?_)))));rintro _ _ ⟨rfl,rfl⟩;refine A7 A0 A0 (A5 ?_);refine k1 (k10 (k12 (k11 ?_)))
  exact G7 (I8 rfl rfl) (by repeat (first | exact A8 | refine tail_drop rfl ?_ | refine A9 rfl ?_ | refine F8 _ rfl ?_)) (E4 (L:=[(820,_),(821,_)]) ⟨rfl,rfl,trivial⟩ (by repeat (first | exact D5 | refine D8 rfl ?_ | refine D9 hf3 ?_ | refine M5 _ rfl ?_ | refine L5 hf3 ?_))) ⟨rfl,rfl⟩
 have hK3:=A2 ht
 rw [if_neg hK3] at hB
 refine k2 (A3 (A6 (H0 A0 A0) A0 (A7 A0 A0 (A5 ?_))));refine k1 ?_;refine B1 rfl (fun ht=>?_) (fun ht=>?_)
 ·have hK:=A1 ht
  rw [if_pos hK] at hB
  refine k2 (A3 (A6 (C3 A0) A0 (A6 (B3 A0 A0) A0 (F4 A0 A0 (A6 (N1 A0 A0 (by omega)) A0 (A7 A0 A0 (A5 ?_)))))));refine k1 (k3 ?_);refine D2 (X:=Nat × Nat × Int × List AL.State) (fun x=>([(0,.s B59),(2,C7 x.2.2.1),(7,.s (.one (.eref Unit 8 (fun _ j=>(cellsOf A68 n 0 8).getD j (.v undef)) () 0))),(8,C7 ((x.2.1:Int) - 1))]++C0 [821,824] gf,[(820,B58 ns w),(821,t7 x.2.2.2)]++G8 [821,824] ob)) (fun x=>x.1≤F∧x.2.1≤n.Kids.length∧catB ns w x.1 (n.Kids.take x.2.1).reverse x.2.2.1 x.2.2.2=some (st',r)) (fun x=>x.2.1) (F,n.Kids.length,next,st) ⟨Nat.le_refl _,Nat.le_refl _,by dsimp only;rw [L08];exact hB⟩ ?_ ?_
  ·exact K76 ⟨le1 rfl,le1 rfl,le1 rfl,le1 rfl,trivial⟩ (C6 hH) (by repeat (first | exact A8 | refine tail_drop rfl ?_ | refine A9 rfl ?_ | refine F8 _ rfl ?_)) (E4 (L:=[(820,_),(821,_)]) ⟨rfl,rfl,trivial⟩ (by repeat (first | exact D5 | refine D8 rfl ?_ | refine D9 hf3 ?_ | refine M5 _ rfl ?_ | refine L5 hf3 ?_)))
  rintro ⟨f,c,s1,sx⟩ ⟨hf,hc',hA⟩
  dsimp only at hf hc' hA ⊢
  have hf0:f≠0:=fun e=>by rw [e] at hA;cases hA
  obtain ⟨f,rfl⟩:∃g,f=g+1:=⟨f - 1,by omega⟩
  refine k2 (k2 (A3 (A4 A0 A0 (A6 (V2 A0 A0) A0 (A5 ?_)))));refine k1 ?_;refine B1 rfl (fun ht=>?_) (fun ht=>?_)
  ·have hcp:0 < c:=by have:=A1 ht;omega
   obtain ⟨c,rfl⟩:∃g,c=g+1:=⟨c - 1,by omega⟩
   obtain ⟨kc,hkc⟩:∃kc,kc=n.Kids[c]'(by omega):=⟨_,rfl⟩
   have hkv2:n.Kids[c]?=some kc:=by rw [hkc];exact L01 (by omega)
   have hkv3:n.Kids[(((c+1:Nat):Int) - 1).toNat]?=some kc:=by rw [show (((c+1:Nat):Int) - 1).toNat=c by omega];exact hkv2
   rw [taker hkv2,catB] at hA
   cases hbk:U7 ns w f kc s1 sx with
   | none=>rw [hbk] at hA;cases hA
   | some y =>
    obtain ⟨sy,b⟩:=y
    rw [hbk] at hA
    dsimp only at hA
    have hm2:=(m7 ns w f).2.1 _ _ _ _ _ hA
    refine k5 (k1 (k2 (k3 (A3 (A4 A0 A0 (A6 (C3 A0) A0 (A6 (B3 A0 A0) A0 (A4 A0 A0 (A6 (B6 A0 (.pure _ _ _ _) A0 (by omega) hkv3) A0 (A6 (B3 A0 A0) A0 (A4 A0 A0 (L4 (IH f (by omega) kc s1 sx sy b hbk (hks kc (L14 hkv2)) (by omega) A0 A0 hf3) A0 A0 A0 ?_))))))))))));rintro _ _ ⟨rfl,rfl⟩;refine A7 A0 A0 (A5 ?_);refine k4 (k1 (A3 (A4 A0 A0 (A6 (N1 A0 A0 (by omega)) A0 (A7 A0 A0 (A5 ?_))))));refine k1 ?_;refine ⟨(f,c,b,sy),⟨by dsimp only;omega,by dsimp only;omega,hA⟩,by dsimp only;omega,?_⟩
    dsimp only
    rw [show ((c:Int) - 1)=(((c+1:Nat):Int) - 1 - 1) by omega]
    exact K76 ⟨le1 rfl,le1 rfl,le1 rfl,le1 rfl,trivial⟩ (C6 hH) (by repeat (first | exact A8 | refine tail_drop rfl ?_ | refine A9 rfl ?_ | refine F8 _ rfl ?_)) (E4 (L:=[(820,_),(821,_)]) ⟨rfl,rfl,trivial⟩ (by repeat (first | exact D5 | refine D8 rfl ?_ | refine D9 hf3 ?_ | refine M5 _ rfl ?_ | refine L5 hf3 ?_)))
  have hc0:c=0:=by have:=A2 ht;omega
  subst hc0
  rw [List.take_zero,List.reverse_nil,catB] at hA
  cases hA
  refine k6 (k2 (A3 (A4 A0 A0 (A7 A0 A0 (A5 ?_)))));refine k1 (k10 ?_)
  exact G7 (I8 rfl rfl) (by repeat (first | exact A8 | refine tail_drop rfl ?_ | refine A9 rfl ?_ | refine F8 _ rfl ?_)) (E4 (L:=[(820,_),(821,_)]) ⟨rfl,rfl,trivial⟩ (by repeat (first | exact D5 | refine D8 rfl ?_ | refine D9 hf3 ?_ | refine M5 _ rfl ?_ | refine L5 hf3 ?_))) ⟨rfl,rfl⟩
 have hK4:=A2 ht
 rw [if_neg hK4] at hB
 refine k2 (A3 (A6 (H0 A0 A0) A0 (A7 A0 A0 (A5 ?_))));refine k1 ?_;refine B1 rfl (fun ht=>?_) (fun ht=>?_)
 ·have hK:=A1 ht
  rw [if_pos hK] at hB
  cases hkr:n.Kids.reverse with
  | nil=>rw [hkr] at hB;cases hB
  | cons k kr =>
   rw [hkr] at hB
   dsimp only at hB
   cases hbk:U7 ns w F k next st with
   | none=>rw [hbk] at hB;cases hB
   | some y =>
    obtain ⟨st1,s0⟩:=y
    rw [hbk] at hB
    dsimp only at hB
    refine k2 (A3 (A4 A0 A0 (A6 (C3 A0) A0 (A6 (B3 A0 A0) A0 (A4 A0 A0 (L4 (I80 IH n.Kids next st st1 st' s0 r k kr hkr hks hkn hbk hB hl A0 A0 hf3) A0 A0 A0 ?_))))));rintro _ _ ⟨rfl,rfl⟩;refine A7 A0 A0 (A5 ?_);refine k1 (k10 (k12 (k11 ?_)))
    exact G7 (I8 rfl rfl) (by repeat (first | exact A8 | refine tail_drop rfl ?_ | refine A9 rfl ?_ | refine F8 _ rfl ?_)) (E4 (L:=[(820,_),(821,_)]) ⟨rfl,rfl,trivial⟩ (by repeat (first | exact D5 | refine D8 rfl ?_ | refine D9 hf3 ?_ | refine M5 _ rfl ?_ | refine L5 hf3 ?_))) ⟨rfl,rfl⟩
 have hK5:=A2 ht
 rw [if_neg hK5] at hB
 refine k2 (A3 (A6 (H0 A0 A0) A0 (A7 A0 A0 (A5 ?_))));refine k1 ?_;refine B1 rfl (fun ht=>?_) (fun ht=>?_)
 ·have hK:=A1 ht
  rw [if_pos hK] at hB
  obtain ⟨hk1,hmm⟩:n.Kids.length=1∧0≤n.Min∧n.Min≤100∧(n.Max = -1∨n.Min≤n.Max∧n.Max≤100):=by omega
  obtain ⟨kid,hkid⟩:∃kid,n.Kids=[kid]:=by
   match hq:n.Kids,hk1 with
   | [kid],_=>exact ⟨kid,rfl⟩
  have hkd:n.Kids.getD 0 0=kid:=by rw [hkid];rfl
  have hk0:n.Kids[(0:Int).toNat]?=some kid:=by rw [hkid];rfl
  have hki2:=hks kid (L14 hk0)
  rw [hkd] at hB
  obtain ⟨st0,nx,stM,nM,hlo,hhi,hmx,hmn⟩:∃(st0:List AL.State) (nx:Int) (stM:List AL.State) (nM:Int),(n.Max < 0→∃sa a,U7 ns w F kid st.length (st++[⟨1,⟨0,0,0,0⟩,0,next⟩])=some (sa,a)∧st0=sa.set st.length { (sa.getD st.length z7) with Next:=a }∧nx=st.length)∧(¬n.Max < 0→st0=st∧nx=next)∧F62 ns w F kid (n.Max - n.Min).toNat nx nx st0=some (stM,nM)∧F63 ns w F kid n.Min.toNat nM stM=some (st',r):=by
   by_cases hM:n.Max < 0
   ·rw [if_pos hM] at hB
    cases hbk:U7 ns w F kid st.length (st++[⟨1,⟨0,0,0,0⟩,0,next⟩]) with
    | none=>erw [hbk] at hB;cases hB
    | some y =>
     obtain ⟨sa,a⟩:=y
     erw [hbk] at hB
     dsimp only at hB
     have hF:F≠0:=fun e=>by rw [e] at hbk;cases hbk
     obtain ⟨F',rfl⟩:∃g,F=g+1:=⟨F - 1,by omega⟩
     refine ⟨_,_,_,_,fun _=>⟨sa,a,rfl,rfl,rfl⟩,fun h=>absurd hM h,?_,hB⟩
     rw [show (n.Max - n.Min).toNat=0 by omega]
     rfl
   ·rw [if_neg hM] at hB
    cases hbk:F62 ns w F kid (n.Max - n.Min).toNat next next st with
    | none=>rw [hbk] at hB;cases hB
    | some y =>
     obtain ⟨sa,a⟩:=y
     rw [hbk] at hB
     dsimp only at hB
     exact ⟨_,_,_,_,fun h=>absurd h hM,fun _=>⟨rfl,rfl⟩,hbk,hB⟩
  refine k2 (A3 (A4 A0 A0 (A6 (E1 A0 A0) A0 (A4 A0 A0 (L4 (H85 IH n kid next st st0 stM st' nx nM r hk0 hki2 hmm hlo hhi hmx hmn hl A0 A0 hf3) A0 A0 A0 ?_)))));rintro _ _ ⟨rfl,rfl⟩;refine A7 A0 A0 (A5 ?_);refine k1 (k10 (k12 (k11 ?_)))
  exact G7 (I8 rfl rfl) (by repeat (first | exact A8 | refine tail_drop rfl ?_ | refine A9 rfl ?_ | refine F8 _ rfl ?_)) (E4 (L:=[(820,_),(821,_)]) ⟨rfl,rfl,trivial⟩ (by repeat (first | exact D5 | refine D8 rfl ?_ | refine D9 hf3 ?_ | refine M5 _ rfl ?_ | refine L5 hf3 ?_))) ⟨rfl,rfl⟩
 have hK6:=A2 ht
 rw [if_neg hK6] at hB
 cases hB
 refine k5 (k2 (A3 (A4 A0 A0 (A7 A0 A0 (A5 ?_)))));refine k1 (k10 ?_)
 exact G7 (I8 rfl rfl) (by repeat (first | exact A8 | refine tail_drop rfl ?_ | refine A9 rfl ?_ | refine F8 _ rfl ?_)) (E4 (L:=[(820,_),(821,_)]) ⟨rfl,rfl,trivial⟩ (by repeat (first | exact D5 | refine D8 rfl ?_ | refine D9 hf3 ?_ | refine M5 _ rfl ?_ | refine L5 hf3 ?_))) ⟨rfl,rfl⟩
theorem D01 {ns:List AL.Node} {w:List Int} (hc:B25 ns=0) (hkl:∀n∈ns,n.Kids.length≤4000) (hwl:w.length=ns.length):∀F,∀g,g≤F→F24 ns w g
 | 0,g,hg=>by
  obtain rfl:g=0:=by omega
  intro i next st st' r hB
  cases hB
 | F+1,g,hg=>by
  rcases Nat.lt_or_ge g (F+1) with h | h
  ·exact D01 hc hkl hwl F g (by omega)
  ·obtain rfl:g=F+1:=by omega
   exact I81 hc hkl hwl (D01 hc hkl hwl F)
set_option maxHeartbeats 1000000
abbrev A54:PV:=.agg [.v (.slice none 0 0),.v (.int .i64 0)]
theorem F25 (L:List AL.Node) (st:List AL.State) (r:Int) (F:Nat) (hc:B25 L=0) (hkl:∀n∈L,n.Kids.length≤4000) (hw:G88 L≤4000) (hb:U7 L (Y1 L) F ((L.length:Int) - 1) 0 [⟨4,⟨0,0,0,0⟩,0,0⟩]=some (st,r)) (hst:st.length≤20000) :
  FnOk Tryz.prog 27 [j2 L] (fun rs=>rs=[A24 ⟨st,r⟩,E2 0]):=by
 obtain ⟨hl1,hl2,hk⟩:=A53 hc
 have hwl:(Y1 L).length=L.length:=by rw [←G87];exact G86 L _
 refine FnOk.intro Tryz.func27 (by decide) A0 A0 A0 A0 ?_
 refine k2 (A3 (D1 (J1 2 A0) A0 (A7 A0 A0 (A5 ?_))));refine k1 (k2 (A3 (A4 A0 A0 (C9 (E26 L hc hkl) A0 A0 A0 ?_))));rintro _ rfl;refine A4 A0 A0 (E8 A0 A0 A0 (E8 A0 A0 A0 (A7 A0 A0 (A7 A0 A0 (A5 ?_)))));refine k1 (k2 (k3 (k2 (A3 (A4 A0 A0 (A6 (O2 A0 A0) A0 (A7 A0 A0 (A5 ?_))))))));refine k1 ?_;refine B1 rfl (fun ht=>?_) (fun ht=>?_)
 ·cases ht
 refine k2 (A3 (A4 A0 A0 (A6 (O1 A0 A0) A0 (A7 A0 A0 (A5 ?_)))));refine k1 ?_;refine B1 rfl (fun ht=>?_) (fun ht=>?_)
 ·have:=A1 ht
  omega
 refine k5 (k2 (A3 (A4 A0 A0 (A4 A0 A0 (C9 (E25 L hc hkl) A0 A0 A0 ?_)))));rintro _ rfl;refine A6 (K0 A0) A0 (D1 (s6 820 A0 A0 A0) A0 (A7 A0 A0 (A5 ?_)));refine k1 (D3 (K81 821 AL.State 7 z6 121 (kb:=820) (o:=2) rfl rfl rfl) ?_)
 refine k2 (A3 (A4 A0 A0 (A6 (K0 A0) A0 (L4 (y5 [] ⟨4,⟨0,0,0,0⟩,0,0⟩ (by decide) A0 A0) A0 A0 A0 ?_))));rintro _ _ ⟨rfl,rfl⟩;refine A7 A0 A0 (A5 ?_);refine k1 (k2 (A3 (A4 A0 A0 (A4 A0 A0 (F4 A0 A0 (A6 (N1 A0 A0 (by omega)) A0 (A4 A0 A0 (L4 (D01 hc hkl hwl F F (Nat.le_refl _) ((L.length:Int) - 1) 0 [⟨4,⟨0,0,0,0⟩,0,0⟩] st r hb ⟨by omega,by omega⟩ hst A0 A0 A0) A0 A0 A0 ?_))))))));rintro _ _ ⟨rfl,rfl⟩;refine A7 A0 A0 (A5 ?_);refine k1 (k2 (A3 (A4 A0 A0 (A6 (B2 A0) A0 (A6 (B0 A0) A0 (G3 A0 A0 A0 A0 (A4 A0 A0 (A6 (K0 A0) A0 (G1 (B9 TySz.out A0 A0 A0 A0 A0 A0) (A7 A0 A0 (A5 ?_)))))))))));refine k1 (D3 (Sees.freezeG (k:=821) (α:=AL.State) (ec:=7) (c:=z6) (xs:=st) (e:=121) rfl rfl) ?_)
 refine k10 ?_
 exact B8 (rs:=[A24 ⟨st,r⟩,E2 0]) (E79 rfl rfl rfl rfl rfl rfl rfl) rfl
theorem I82 (L:List AL.Node) (hc:B25 L=0) (hkl:∀n∈L,n.Kids.length≤4000) (hw:G88 L > 4000):FnOk Tryz.prog 27 [j2 L] (fun rs=>rs=[A54,E2 1]):=by
 refine FnOk.intro Tryz.func27 (by decide) A0 A0 A0 A0 ?_
 refine k2 (A3 (D1 (J1 2 A0) A0 (A7 A0 A0 (A5 ?_))));refine k1 (k2 (A3 (A4 A0 A0 (C9 (E26 L hc hkl) A0 A0 A0 ?_))));rintro _ rfl;refine A4 A0 A0 (E8 A0 A0 A0 (E8 A0 A0 A0 (A7 A0 A0 (A7 A0 A0 (A5 ?_)))));refine k1 (k2 (k3 (k2 (A3 (A4 A0 A0 (A6 (O2 A0 A0) A0 (A7 A0 A0 (A5 ?_))))))));refine k1 ?_;refine B1 rfl (fun ht=>?_) (fun ht=>?_)
 ·cases ht
 refine k2 (A3 (A4 A0 A0 (A6 (O1 A0 A0) A0 (A7 A0 A0 (A5 ?_)))));refine k1 ?_;refine B1 rfl (fun ht=>?_) (fun ht=>?_)
 rotate_left
 ·have:=A2 ht
  omega
 refine k2 (A3 (A6 (K0 A0) A0 (G1 (B9 TySz.out A0 A0 A0 A0 A0 A0) (A7 A0 A0 (A5 ?_)))));refine k1 (k10 (k12 (k11 ?_)))
 exact B8 (rs:=[A54,E2 1]) (E79 rfl rfl rfl rfl rfl rfl rfl) rfl
theorem E28 (p:Str) (L:List AL.Node) (A:AL.Auto) (hp:FnOk Tryz.prog 26 [H7 p] (fun rs=>rs=[j2 L,E2 0])) (hb:FnOk Tryz.prog 27 [j2 L] (fun rs=>rs=[A24 A,E2 0])) :
  FnOk Tryz.prog 14 [H7 p] (fun rs=>rs=[A24 A,E2 0]):=by
 refine FnOk.intro Tryz.func14 (by decide) A0 A0 A0 A0 ?_
 refine k2 (A3 (D1 (J1 2 A0) A0 (A7 A0 A0 (A5 ?_))));refine k1 (k2 (A3 (A4 A0 A0 (C9 (hp) A0 A0 A0 ?_))));rintro _ rfl;refine A4 A0 A0 (E8 A0 A0 A0 (E8 A0 A0 A0 (A7 A0 A0 (A7 A0 A0 (A5 ?_)))));refine k1 (k2 (k2 (A3 (A4 A0 A0 (A6 (O2 A0 A0) A0 (A5 ?_))))));refine k1 ?_;refine B1 rfl (fun ht=>?_) (fun ht=>?_)
 ·cases ht
 refine k5 (k1 (k2 (A3 (A4 A0 A0 (C9 (hb) A0 A0 A0 ?_)))));rintro _ rfl;refine E8 A0 A0 A0 (E8 A0 A0 A0 (G1 (B9 TySz.out A0 A0 A0 A0 A0 A0) (A7 A0 A0 (A5 ?_))));refine k1 (k10 ?_)
 exact B8 (rs:=[A24 A,E2 0]) (E79 rfl rfl rfl rfl rfl rfl rfl) rfl
set_option maxHeartbeats 1000000
theorem G95 {x:Int} (hx:0≤x∧x < 18446744073709551616) (c:Nat):IntKind.u64.wrap ((BitVec.ofInt IntKind.u64.bits x ||| BitVec.ofInt IntKind.u64.bits (IntKind.u64.wrap (1*2 ^ (min ((c:Int).tmod 64).toNat IntKind.u64.bits)))).toNat:Int)=orI x (2 ^ (c % 64)):=by
 obtain ⟨p,hpd⟩:∃p:Nat,p=2 ^ (c % 64):=⟨_,rfl⟩
 have hp0:p < 2 ^ 64:=by rw [hpd];exact Nat.pow_lt_pow_right (by decide) (Nat.mod_lt _ (by decide))
 have hp:p < 18446744073709551616:=hp0
 have e0:((2:Int) ^ (c % 64))=(p:Int):=by rw [hpd];simp
 have e1:IntKind.u64.wrap (1*2 ^ (c % 64))=(p:Int):=by
  rw [Int.one_mul,e0]
  exact u64_id ⟨by omega,by omega⟩
 rw [rem64,e1,e0]
 have hor0:=Nat.or_lt_two_pow (x:=x.toNat) (y:=p) (n:=64) (show x.toNat < 18446744073709551616 by omega) hp0
 have hor:x.toNat ||| p < 18446744073709551616:=hor0
 have e2:(BitVec.ofInt IntKind.u64.bits x ||| BitVec.ofInt IntKind.u64.bits (p:Int)).toNat=x.toNat ||| p:=by
  rw [BitVec.toNat_or,BitVec.toNat_ofInt,BitVec.toNat_ofInt,show ((2 ^ IntKind.u64.bits:Nat):Int)=18446744073709551616 by rfl]
  rw [show (x % 18446744073709551616).toNat=x.toNat by omega,show ((p:Int) % 18446744073709551616).toNat=p by omega]
 rw [e2,u64_id ⟨by omega,by omega⟩]
 unfold orI
 rw [L03]
theorem D40 (z:Set4) (hz:T5 z) (c:UInt8):FnOk Tryz.prog 175 [W5 z,pByte c] (fun rs=>rs=[W5 (z.with_ c.toNat)]):=by
 obtain ⟨z1,z2,z3,z4⟩:=hz
 have hd:c.toNat / 64=0∨c.toNat / 64=1∨c.toNat / 64=2∨c.toNat / 64=3:=by have:=c.toNat_lt;omega
 have hm0:0≤(c.toNat:Int).tmod 64:=Int.tmod_nonneg _ (by omega)
 refine FnOk.intro Tryz.func175 (by decide) A0 A0 A0 A0 ?_
 refine k2 (A3 (D1 (s6 2 A0 A0 A0) A0 (D1 (J1 4 A0) A0 (A5 ?_))));refine k1 (k2 ?_)
 rcases hd with hd | hd | hd | hd
 all_goals
  have hq4:=quo64 c.toNat_lt hd
  refine A3 (A4 A0 A0 (A6 (G58 A0 A0 (by decide)) A0 (A6 (v8 A0 A0 (hq4) (by decide)) A0 (G3 A0 A0 A0 A0 (A4 A0 A0 (A6 (n_rem A0 A0 (by decide)) A0 (A6 (n_shl A0 A0 (by (exact hm0))) A0 ?_)))))));refine A6 (n_bits A0 A0 A0 (fun _=>rfl)) A0 (A6 (v8 A0 A0 (hq4) (by decide)) A0 (G1 (B9 TySz.out A0 A0 A0 A0 A0 A0) (A5 ?_)));refine k1 (k2 (A3 (A6 (J5 A0 A0 A0) A0 (G1 (B9 TySz.out A0 A0 A0 A0 A0 A0) (A5 ?_)))));refine k1 (k10 (B8 (retc A0 A0 A0 A0 A0) ?_))
  unfold Set4.with_
  rw [hd]
  simp only [G95 z1,G95 z2,G95 z3,G95 z4]
theorem A45:T5 set0:=⟨⟨by decide,by decide⟩,⟨by decide,by decide⟩,⟨by decide,by decide⟩,⟨by decide,by decide⟩⟩
end Go.Proofs.YtjmoigcpoopjhaaGreatDoor
