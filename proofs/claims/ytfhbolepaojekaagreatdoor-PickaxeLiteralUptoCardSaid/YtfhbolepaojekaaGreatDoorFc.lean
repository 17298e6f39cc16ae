/- Walks of the program's functions. -/
import Derived.Test.YtfhbolepaojekaaGreatDoorFb
import Derived.Test.YtfhbolepaojekaaGreatDoorFa
import Derived.Test.YtfhbolepaojekaaGreatDoorFs
import Derived.RecoverIn
set_option linter.unusedSimpArgs false
namespace Go.Proofs.YtfhbolepaojekaaGreatDoor
open Go Go.AL
set_option maxRecDepth 100000
set_option maxHeartbeats 1000000
theorem F42 (n:Nat) (hn:n≤1000000):AL.Met Tryz.prog 57 [.one (.p (.v (.slice none 0 0))),N2 n] [] [] [] (fun rs ob'=>rs=[.one (.mut 803)]∧ob'=[(803,H56 [])]):=by
 refine AL.Met.intro Tryz.func57 (by decide) V V V ?_
 refine k2 (A2 (A5 (G8 _ 2 o9) V (A4 ?_)));refine k1 (k2 (k2 (A2 (A3 V V (E7 V V V (A4 ?_))))));refine k1 ?_;refine B0 rfl (fun ht=>?_) (fun ht=>?_)
 ·have h1:=A0 ht
  omega
 refine k5 (k1 (k2 (k2 (A2 (A3 V V (A3 V V (A5 (B67 V) V (A3 V V (A5 (B60 V) V (A5 (K9 V V (by omega)) V (A5 (K9 V V (by omega)) V (A6 V V (A4 ?_)))))))))))))
 rw [show (n:Int) - (0 - 0)=(n:Int) by omega]
 refine k1 (k2 (A2 (A3 V V (A5 (L7 V V) V (A4 ?_)))));refine k1 ?_;refine B0 rfl (fun ht=>?_) (fun ht=>?_)
 ·have h1:=A0 ht
  skip
  refine A2 (A3 V V (A3 V V (A5 (B67 V) V (A5 (B90 V V) V (A3 V V (C6 (E81 803 V V (by omega) (by omega) V V) V (A3 V V (A5 (B60 V) V (C6 (B66 V V V (by omega) (by omega) V) V (A6 V V (A4 ?_)))))))))));refine k1 (k2 ?_)
  rw [show Int.toNat 0=0 from rfl,List.take_zero]
  refine E2 (J04 (k:=803) (Str × Str) o9 V) ?_
  refine A2 (A3 V V (A6 V V (A4 ?_)));refine k1 (k10 ?_)
  exact G5 (K6 rfl rfl) (by repeat (first | exact B2 | refine B3 rfl ?_ | refine D5 _ ?_)) (ObIn.spec (ob':=[(803,H56 [])]) ⟨rfl,trivial⟩) ⟨rfl,rfl⟩
 ·refine E2 (J03 0 803 (Str × Str) 2 o9 43 V V) ?_
  refine k5 (k1 (k2 (A2 (A3 V V (A6 V V (A4 ?_))))));refine k1 (k10 ?_)
  exact G5 (K6 rfl rfl) (by repeat (first | exact B2 | refine B3 rfl ?_ | refine D5 _ ?_)) (ObIn.spec (ob':=[(803,H56 [])]) ⟨rfl,trivial⟩) ⟨rfl,rfl⟩
theorem E55 (B:List (List (Str × Str))) (hB:FewB B):FnOk Tryz.prog 31 [C73 B] (fun rs=>rs=[pPairs B.flatten]):=by
 have hBl:=hB.len
 have hall:B.flatten=n5 B B.length:=by unfold n5;rw [J22]
 rw [hall]
 refine FnOk.intro Tryz.func31 (by decide) V V V V ?_
 refine k2 (A2 (A6 V V (A4 ?_)));refine k1 (k2 (A2 (A6 V V (A4 ?_))));refine k1 (k2 (k2 (A2 (A3 V V (E1 V V (A3 V V (A4 ?_)))))));refine k1 (k3 (C5 (X:=Nat) (fun i=>([(0,C7 (List (Str × Str)) 1 Y5 B),(3,C0 ((n5 B i).length:Nat)),(9,C7 (List (Str × Str)) 1 Y5 B),(10,C0 B.length),(11,C0 i)],[])) (fun i=>i≤B.length) (fun i=>B.length - i) 0 (Nat.zero_le _) (I89 ⟨le1 rfl,le1 rfl,le1 rfl,le1 rfl,le1 rfl,trivial⟩ trivial) ?_))
 intro i hi
 dsimp only at hi ⊢
 have hfl:=A92 hB i
 refine k2 (A2 (E7 V V V (A4 ?_)));refine k1 (k2 ?_);refine B0 rfl (fun ht=>?_) (fun ht=>?_)
 ·have hlt:i < B.length:=by have h1:=A0 ht;(try dsimp only at h1);omega
  obtain ⟨l,hl⟩:∃l,l=B[i]:=⟨_,rfl⟩
  have hv:B[i]?=some l:=by rw [hl];simp [hlt]
  have hll:=hB.lens l (by rw [hl];exact J18 hlt)
  have hs:((n5 B (i+1)).length:Int)=(n5 B i).length+l.length:=by rw [D21 hlt,J19,hl];omega
  refine k5 (k1 (k2 (k3 (k2 (A2 (A5 (A8 V (.pure _ _ _ _) V (by omega) hv) V (A5 (A7 V V) V (A6 V V (A4 ?_)))))))));refine k1 (k2 (A2 (A3 V V (A3 V V (E1 V V (D1 V V V (A6 V V (A4 ?_))))))));refine k1 (k2 (A2 (A3 V V (E7 V V V (A4 ?_)))));refine k1 ?_;refine B0 rfl (fun ht=>?_) (fun ht=>?_)
  ·have h1:=A0 ht
   omega
  refine k5 (k4 (k1 (A2 (D1 V V V (A3 V V (A4 ?_))))));refine k1 ?_;refine ⟨i+1,by omega,by omega,?_⟩
  rw [hs]
  exact (I89 ⟨le1 rfl,le1 rfl,le1 rfl,le1 rfl,le1 rfl,trivial⟩ trivial)
 have hie:i=B.length:=by have h1:=A1 ht;(try dsimp only at h1);omega
 rw [hie]
 have hfl2:=A92 hB B.length
 refine k6 (k2 (A2 (A3 V V (B33 (F42 (n5 B B.length).length (by omega)) V V V V ?_))));rintro _ _ ⟨rfl,rfl⟩;refine ⟨rfl,?_⟩;refine A6 V V (A4 ?_);refine k1 (k2 (k2 (A2 (A3 V V (E1 V V (A3 V V (A4 ?_)))))));refine k1 (k3 (C5 (X:=Nat) (fun i=>([(6,.s (.one (.mut 803))),(25,C7 (List (Str × Str)) 1 Y5 B),(26,C0 B.length),(27,C0 i)],[(803,H56 (n5 B i))])) (fun i=>i≤B.length) (fun i=>B.length - i) 0 (Nat.zero_le _) (I89 ⟨le1 rfl,le1 rfl,le1 rfl,le1 rfl,trivial⟩ ⟨rfl,trivial⟩) ?_))
 intro i hi
 dsimp only at hi ⊢
 have hfl:=A92 hB i
 refine k2 (A2 (E7 V V V (A4 ?_)));refine k1 (k2 ?_);refine B0 rfl (fun ht=>?_) (fun ht=>?_)
 ·have hlt:i < B.length:=by have h1:=A0 ht;(try dsimp only at h1);omega
  obtain ⟨l,hl⟩:∃l,l=B[i]:=⟨_,rfl⟩
  have hv:B[i]?=some l:=by rw [hl];simp [hlt]
  have hll:=hB.lens l (by rw [hl];exact J18 hlt)
  have hs:=D21 hlt
  rw [←hl] at hs
  refine k5 (k1 (k2 (k3 (k2 (A2 (A5 (A8 V (.pure _ _ _ _) V (by omega) hv) V (A5 (A7 V V) V (A6 V V (A4 ?_)))))))));refine k1 (A2 (A3 V V (A3 V V (C6 (T0 V V V (.pure _ _ _ _) (by omega) V) V (A6 V V (A4 ?_))))));refine k4 (k1 (A2 (D1 V V V (A3 V V (A4 ?_)))));refine k1 ?_;refine ⟨i+1,by omega,by omega,?_⟩
  rw [hs]
  exact (I89 ⟨le1 rfl,le1 rfl,le1 rfl,le1 rfl,trivial⟩ ⟨rfl,trivial⟩)
 have hie2:i=B.length:=by have h1:=A1 ht;(try dsimp only at h1);omega
 rw [hie2]
 refine k6 (k2 (E2 (Sees.freezeG (k:=803) V V) ?_))
 refine A2 (A3 V V (A6 V V (A4 ?_)));refine k1 (k10 ?_)
 exact B6 (rs:=[pPairs (n5 B B.length)]) (G7 rfl rfl rfl) rfl
set_option maxHeartbeats 1000000
abbrev D98 (l:List Int):Ob:=.arr Int 1 E3 l
abbrev T5 (l:List Int):Ob:=.grow 3 Int 1 E3 l
theorem E92 {gf:Fr} {ob:Obs} (ch opn:List Int) (c:Nat) (hc:c < ch.length) (_hl:ch.length≤1000000) (ho:opn.length≤1000000) (h5:B9 ob 5=some (.box [.mut 753])) (h7:B9 ob 7=some (.box [.mut 754])) (h753:B9 ob 753=some (D98 ch)) (h754:B9 ob 754=some (T5 opn)) :
  AL.Met Tryz.prog 79 [.one (.p (.v (.int .i64 c))),.one (.ref 5 0),.one (.ref 7 0)] gf ob [754]
   (fun rs ob'=>rs=[]∧ob'=(5,.box [.mut 753])::(7,.box [.mut 754])::(753,D98 (if atG ch c < 0 then ch.set c 0 else ch))::(754,T5 (if atG ch c < 0 then opn++[(c:Int)] else opn))::Obs.forget 754 ob):=by
 have hva:=C12 (l:=ch) (p:=(c:Int)) (by omega)
 rw [J16] at hva
 refine AL.Met.introH Tryz.func79 (by decide) rfl rfl rfl (fun hH=>?_)
 refine E2 (I91 754 (l:=[(0,C0 c),(1,.s (.one (.ref 5 0))),(2,.s (.one (.ref 7 0)))]) (L:=[(5,_),(7,_),(753,_),(754,_)]) ⟨le1 rfl,le1 rfl,le1 rfl,trivial⟩ hH (by repeat (first | exact B2 | refine B3 rfl ?_)) ⟨h5,h7,h753,h754,trivial⟩) ?_
 refine k2 (A2 (G4 V V V V (A3 V V (A5 (F3 V V V (by omega) (by omega)) V (A5 (M2 V V hva V) V (E7 V V V (A4 ?_)))))));refine k1 ?_;refine B0 rfl (fun ht=>?_) (fun ht=>?_)
 ·have h1:atG ch c < 0:=A0 ht
  rw [if_pos h1,if_pos h1]
  refine k2 (A2 (G4 V V V V (A3 V V (A5 (F3 V V V (by omega) (by omega)) V (H1 (I4 TySz.out V V (by omega) V V) (A4 ?_))))));refine k1 (A2 (G4 V V V V (A3 V V (A5 (C1 (c:=E3) (ys:=[(c:Int)]) (D2 V V V V F1) V V V) V (C6 (T0 V V V (.pure _ _ _ _) (by (simp only [J17,J21];omega)) V) V (H1 (C2 TySz.out V V V V V V) (A4 ?_)))))))
  skip
  exact S9 (A67 rfl) (by repeat (first | exact B2 | refine B3 rfl ?_ | refine J9 _ ?_)) (E5 (L:=[(5,_),(7,_),(753,_),(754,_)]) ⟨rfl,rfl,rfl,rfl,trivial⟩ (by repeat (first | exact D6 | refine D7 rfl ?_ | refine Q6 _ ?_))) ⟨rfl,rfl⟩
 ·have h1:¬atG ch c < 0:=A1 ht
  rw [if_neg h1,if_neg h1]
  refine k5 ?_
  exact S9 (A67 rfl) (by repeat (first | exact B2 | refine B3 rfl ?_ | refine J9 _ ?_)) (fun _ _ h=>h) ⟨rfl,rfl⟩
def A51 (n i:Nat):List Int:=List.replicate i (-1)++List.replicate (n - i) 0
theorem G88 {n i:Nat} (h:i < n):(A51 n i).set i (-1)=A51 n (i+1):=by
 unfold A51
 rw [List.set_append_right _ _ (by simp),J47,J62,show n - i=(n - (i+1))+1 by omega,List.replicate_succ,List.set_cons_zero,List.replicate_succ',J26];rfl
theorem G89 {n i:Nat} (h:i≤n):(A51 n i).length=n:=by unfold A51;simp;omega
theorem DInv.last {g:Graph} {inn:List Bool} {st:List Int} {k i:Nat} {ch opn D:List Int} (h:DInv g inn st k i ch opn D) (h0:0 < opn.length):∃c:Nat,opn=opn.take (opn.length - 1)++[(c:Int)]∧c < g.length∧opn[opn.length - 1]?=some (c:Int):=by
 have hlt:opn.length - 1 < opn.length:=by omega
 have hm:=h.on opn[opn.length - 1] (List.mem_append_right _ (J18 hlt))
 have e1:opn[opn.length - 1]=(opn[opn.length - 1].toNat:Int):=by omega
 refine ⟨opn[opn.length - 1].toNat,?_,by omega,by rw [J14 hlt];exact congrArg some e1⟩
 have h1:opn.take (opn.length - 1+1)=opn:=J40 (by omega)
 rw [List.take_add_one,J14 hlt,Option.toList_some] at h1
 rw [←e1];exact h1.symm
theorem F43 (g:Graph) (s:List Int) (hf:FewG g) (hr:related g=true) (hs:∀f∈s,0≤f∧f < g.length) (hsl:s.length≤1048576) :
  AL.Met Tryz.prog 51 [.one (.p (.list Commit 3 F6 g)),.one (.p (.list Int 1 E3 s))] [] [] [] (fun rs ob'=>∃ch,rs=[.one (.mut 753)]∧ob'=[(753,D98 ch)]∧ch.length=g.length∧∀p,p < g.length→atG ch p=if K3 (N1 g s) p=true then (D03 g (N1 g s) [] p:Int) else -1):=by
 have hg:=hf.len
 have hrs:=B75 hr hs
 have hcl:=A95 hr s hs
 obtain ⟨inn,hinn⟩:∃inn,inn=N1 g s:=⟨_,rfl⟩
 have hfin:=@DInv.fin g s
 rw [←hinn] at hrs hcl
 refine AL.Met.intro Tryz.func51 (by decide) V V V ?_
 refine k2 (A2 (A6 V V (A4 ?_)));refine k1 (k2 (A2 (A3 V V (E1 V V (C6 (i7 753 Int E3 0 V V (by omega) (by omega) (fun _=>by first | exact ⟨⟨rfl,rfl⟩,trivial⟩ | exact ⟨H2 _ _ _,trivial⟩ | exact ⟨H2 _ _ _,⟨rfl,rfl⟩,H2 _ _ _,trivial⟩) (by first | rfl | (simp [K4,J5,Ob.free,SV.free,S1.free,TC.free]<;>rfl))) V ?_)))));refine C6 (J6 5 V) V (H1 (C2 TySz.out V V V V V V) (A4 ?_));refine k1 (k2 (k2 (A2 (G4 V V V V (A5 (C78 V V) V (A3 V V (A4 ?_)))))));refine k1 (k3 ?_)
 rw [J16]
 refine C5 (X:=Nat) (fun i=>([(0,C7 Commit 3 F6 g),(1,C7 Int 1 E3 s),(5,.s (.one (.ref 5 0))),(18,C0 g.length),(19,C0 i)],[(5,.box [.mut 753]),(753,D98 (A51 g.length i))])) (fun i=>i≤g.length) (fun i=>g.length - i) 0 (Nat.zero_le _) (by rw [show A51 g.length 0=List.replicate g.length 0 by unfold A51;simp];exact (I89 ⟨le1 rfl,le1 rfl,le1 rfl,leE V (by first | (simp;done) | (simp;omega)),le1 rfl,trivial⟩ ⟨rfl,rfl,trivial⟩)) ?_
 intro i hi
 dsimp only at hi ⊢
 have hil:=G89 hi
 refine k2 (A2 (E7 V V V (A4 ?_)));refine k1 (k2 ?_);refine B0 rfl (fun ht=>?_) (fun ht=>?_)
 ·have hlt:i < g.length:=by have h1:=A0 ht;(try dsimp only at h1);omega
  have hst:=G88 hlt
  refine k5 (k1 (k2 (k3 (k2 (A2 (A3 V V (A6 V V (A4 ?_))))))));refine k1 (A2 (G4 V V V V (A3 V V (A5 (F3 V V V (by omega) (by (rw [hil];omega))) V ?_))));refine H1 (I4 TySz.out V V (by (rw [hil];omega)) V V) ?_;refine A4 ?_;refine k4 (k1 (A2 (D1 V V V (A3 V V (A4 ?_)))));refine k1 ?_;refine ⟨i+1,by omega,by omega,?_⟩
  rw [J16,hst]
  exact (I89 ⟨le1 rfl,le1 rfl,le1 rfl,le1 rfl,le1 rfl,trivial⟩ ⟨rfl,rfl,trivial⟩)
 have hie:i=g.length:=by have h1:=A1 ht;(try dsimp only at h1);omega
 rw [hie,show A51 g.length g.length=List.replicate g.length (-1) by unfold A51;simp]
 have hD0:=DInv.start g inn
 refine k6 (k2 (A2 (C6 (J6 7 V) V (A4 ?_))));refine k1 (k2 (E2 (I95 754 Int 1 E3 3 (kb:=7) (o:=0) V V V) ?_))
 refine A2 (A5 (A11 V V) V (A6 V V (A4 ?_)));refine k1 (k2 (k2 (A2 (A3 V V (E1 V V (A3 V V (A4 ?_)))))));refine k1 (k3 (C5 (X:=Nat × List Int × List Int) (fun x=>([(0,C7 Commit 3 F6 g),(5,.s (.one (.ref 5 0))),(7,.s (.one (.ref 7 0))),(8,.s (.one (.clo 79 [] [(5,0),(7,0)]))),(27,C7 Int 1 E3 s),(28,C0 s.length),(29,C0 x.1)],[(5,.box [.mut 753]),(7,.box [.mut 754]),(753,D98 x.2.1),(754,T5 x.2.2)])) (fun x=>x.1≤s.length∧DInv g inn (s.take x.1) 0 0 x.2.1 x.2.2 []) (fun x=>s.length - x.1) (0,List.replicate g.length (-1),[]) ⟨Nat.zero_le _,hD0⟩ (I89 ⟨le1 rfl,le1 rfl,le1 rfl,le1 rfl,le1 rfl,le1 rfl,le1 rfl,trivial⟩ ⟨rfl,rfl,rfl,rfl,trivial⟩) ?_))
 rintro ⟨j,ch,opn⟩ ⟨hj,hD⟩
 dsimp only at hj hD ⊢
 have hDl:=hD.le
 have hchl:=hD.len
 rw [J21,Nat.zero_add] at hDl
 refine k2 (A2 (E7 V V V (A4 ?_)));refine k1 (k2 ?_);refine B0 rfl (fun ht=>?_) (fun ht=>?_)
 ·have hlt:j < s.length:=by have h1:=A0 ht;(try dsimp only at h1);omega
  have hsr:=hs _ (J18 hlt)
  obtain ⟨c,hc⟩:∃c:Nat,s[j]=(c:Int):=⟨s[j].toNat,by omega⟩
  have hv:s[j]?=some (c:Int):=by rw [J14 hlt,hc]
  have hcg:c < g.length:=by omega
  have hon:K3 inn c=true:=(hrs c).2 ⟨c,by rw [←hc];exact J18 hlt,.inl rfl⟩
  obtain ⟨hD2,_⟩:=hD.reach (Nat.le_refl _) hcg hon (s.take (j+1)) (fun f hf=>by
   rw [S0 hlt] at hf
   rcases hf with hf | hf
   ·exact .inl hf
   ·right;rw [hf,hc])
  refine k5 (k1 (k2 (k3 (k2 (A2 (A5 (A8 V (.pure _ _ _ _) V (by omega) hv) V (A5 (A7 V V) V (A6 V V (A4 ?_)))))))));refine k1 (A2 (A3 V V (A3 V V (B28 (E92 ch opn c (by omega) (by omega) (by omega) V V V V) V V V V ?_))));rintro _ _ ⟨rfl,rfl⟩;refine A4 ?_;refine k4 (k1 (A2 (D1 V V V (A3 V V (A4 ?_)))));refine k1 ?_
  exact ⟨(j+1,if atG ch c < 0 then ch.set c 0 else ch,if atG ch c < 0 then opn++[(c:Int)] else opn),⟨hlt,hD2⟩,by dsimp only;omega,(I89 ⟨le1 rfl,le1 rfl,le1 rfl,le1 rfl,le1 rfl,le1 rfl,le1 rfl,trivial⟩ ⟨rfl,rfl,rfl,rfl,trivial⟩)⟩
 have hje:j=s.length:=by have h1:=A1 ht;(try dsimp only at h1);omega
 rw [hje,J22] at hD
 refine k6 (k2 (k3 (C5 (X:=List Int × List Int × List Int) (fun x=>([(0,C7 Commit 3 F6 g),(5,.s (.one (.ref 5 0))),(7,.s (.one (.ref 7 0))),(8,.s (.one (.clo 79 [] [(5,0),(7,0)])))],[(5,.box [.mut 753]),(7,.box [.mut 754]),(753,D98 x.1),(754,T5 x.2.1)])) (fun x=>DInv g inn s x.2.2.length 0 x.1 x.2.1 x.2.2) (fun x=>g.length - x.2.2.length) (ch,opn,[]) hD (I89 ⟨le1 rfl,le1 rfl,le1 rfl,le1 rfl,trivial⟩ ⟨rfl,rfl,rfl,rfl,trivial⟩) ?_)))
 rintro ⟨ch,opn,D⟩ hD
 dsimp only at hD ⊢
 have hDl:=hD.le
 have hchl:=hD.len
 refine k2 (k2 (A2 (G4 V V V V (A5 (X0 V V) V (A5 (L7 V V) V (A4 ?_))))));refine k1 ?_;refine B0 rfl (fun ht=>?_) (fun ht=>?_)
 rotate_left
 ·have h1:opn=[]:=by
   have h1:=A1 ht
   exact List.length_eq_zero_iff.1 (by omega)
  rw [h1] at hD
  have hF:=hfin hr hs (by rw [←hinn];exact hD)
  refine k6 (k2 (A2 (G4 V V V V (A6 V V (A4 ?_)))));refine k1 (k10 ?_)
  exact G5 (K6 rfl rfl) (by repeat (first | exact B2 | refine B3 rfl ?_ | refine D5 _ ?_)) (ObIn.spec (ob':=[(753,D98 ch)]) ⟨rfl,trivial⟩) ⟨ch,rfl,rfl,hchl,hF⟩
 have h0:0 < opn.length:=by have h1:=A0 ht;omega
 obtain ⟨c,e1,hcg,hvl⟩:=DInv.last hD h0
 obtain ⟨opn1,hop⟩:∃opn1,opn1=opn.take (opn.length - 1):=⟨_,rfl⟩
 have hvl:opn[((opn.length:Int) - 1).toNat]?=some (c:Int):=by rw [show ((opn.length:Int) - 1).toNat=opn.length - 1 by omega];exact hvl
 have hcut:opn.take ((opn.length:Int) - 1).toNat=opn1:=by rw [hop];congr 1;omega
 rw [←hop] at e1
 have hP:=(by rw [e1] at hD;exact hD:DInv g inn s D.length 0 ch (opn1++[(c:Int)]) D).pop
 obtain ⟨cm,hcm⟩:∃cm,cm=g[c]:=⟨_,rfl⟩
 have hvc:g[((c:Nat):Int).toNat]?=some cm:=by rw [hcm];simp [hcg]
 have hps:E9 g c=cm.Parents:=by rw [V9 hcg,hcm]
 have hpl:=hf.pars cm (by rw [hcm];exact J18 hcg)
 have honc:K3 inn c=true:=by
  have:=(hP.on (c:Int) (by simp)).2.2
  rwa [J16] at this
 have hgD:(D++[(c:Int)]).getD D.length 0=(c:Int):=by
  rw [J20,J30 (Nat.le_refl _),J62];rfl
 refine k5 (k1 (k3 (k2 (A2 (G4 V V V V (G4 V V V V (A5 (X0 V V) V (A5 (K9 V V (by omega)) V (A5 (I2 V V V (by omega) (by omega)) V (A5 (A12 V V hvl V) V (A6 V V (A4 ?_))))))))))));refine k1 (k2 (A2 (G4 V V V V (G4 V V V V (A5 (X0 V V) V (A5 (K9 V V (by omega)) V (C6 (B66 V V V (by omega) (by omega) V) V (H1 (C2 TySz.out V V V V V V) (A4 ?_)))))))))
 rw [hcut]
 refine k1 (k2 (A2 (A3 V V (A3 V V (A5 (A8 V (.pure _ _ _ _) V (by omega) hvc) V (A5 (B8 V) V (A5 (A7 V V) V (E1 V V (A3 V V (A4 ?_))))))))));refine k1 (k3 (C5 (X:=Nat × List Int × List Int) (fun x=>([(0,C7 Commit 3 F6 g),(5,.s (.one (.ref 5 0))),(7,.s (.one (.ref 7 0))),(8,.s (.one (.clo 79 [] [(5,0),(7,0)]))),(55,C7 Int 1 E3 cm.Parents),(56,C0 cm.Parents.length),(57,C0 x.1)],[(5,.box [.mut 753]),(7,.box [.mut 754]),(753,D98 x.2.1),(754,T5 x.2.2)])) (fun x=>x.1≤cm.Parents.length∧DInv g inn s D.length x.1 x.2.1 x.2.2 (D++[(c:Int)])) (fun x=>cm.Parents.length - x.1) (0,ch,opn1) ⟨Nat.zero_le _,hP⟩ (I89 ⟨le1 rfl,le1 rfl,le1 rfl,le1 rfl,le1 rfl,le1 rfl,le1 rfl,trivial⟩ ⟨rfl,rfl,rfl,rfl,trivial⟩) ?_))
 rintro ⟨i,ch,opn⟩ ⟨hi,hD⟩
 dsimp only at hi hD ⊢
 have hDl:=hD.le
 have hchl:=hD.len
 rw [J19,List.length_singleton] at hDl
 refine k2 (A2 (E7 V V V (A4 ?_)));refine k1 (k2 ?_);refine B0 rfl (fun ht=>?_) (fun ht=>?_)
 rotate_left
 ·have h1:i=cm.Parents.length:=by have h1:=A1 ht;(try dsimp only at h1);omega
  rw [h1,←hps] at hD
  have hN:=hD.next (k:=D.length) (by simp) hgD
  refine k6 (k7 (k7 (k8 V (k4 (k1 ?_)))))
  exact ⟨(ch,opn,D++[(c:Int)]),hN,by dsimp only;rw [J19,List.length_singleton];omega,(I89 ⟨le1 rfl,le1 rfl,le1 rfl,le1 rfl,trivial⟩ ⟨rfl,rfl,rfl,rfl,trivial⟩)⟩
 have hilt:i < cm.Parents.length:=by have h1:=A0 ht;(try dsimp only at h1);omega
 have hpb:=(J4 hr c).1 cm.Parents[i] (by rw [hps];exact J18 hilt)
 obtain ⟨p,hp⟩:∃p:Nat,cm.Parents[i]=(p:Int):=⟨cm.Parents[i].toNat,by omega⟩
 have hvp:cm.Parents[i]?=some (p:Int):=by rw [J14 hilt,hp]
 have hpg:p < g.length:=by omega
 have honp:K3 inn p=true:=by
  have:=hcl c honc (p:Int) (by rw [hps,←hp];exact J18 hilt)
  rwa [J16] at this
 obtain ⟨hD2,hm2⟩:=hD.reach (by simp) hpg honp s (fun f hf=>.inl hf)
 obtain ⟨q1,q2,hD3⟩:=hD2.count hr hgD (i:=i) (p:=p) (by rw [hps];exact hilt) (by simp only [hps];exact hp) hm2
 have hl2:=hD2.len
 refine k5 (k1 (k2 (k3 (k2 (A2 (A5 (A8 V (.pure _ _ _ _) V (by omega) hvp) V (A5 (A7 V V) V (A6 V V (A4 ?_)))))))));refine k1 (k2 (A2 (A3 V V (A3 V V (B28 (E92 ch opn p (by omega) (by omega) (by omega) V V V V) V V V V ?_)))));rintro _ _ ⟨rfl,rfl⟩;refine A4 ?_
 obtain ⟨ch2,hch2⟩:∃ch2,ch2=(if atG ch p < 0 then ch.set p 0 else ch):=⟨_,rfl⟩
 obtain ⟨opn2,hopn2⟩:∃opn2,opn2=(if atG ch p < 0 then opn++[(p:Int)] else opn):=⟨_,rfl⟩
 rw [←hch2] at q1 q2 hl2
 rw [←hch2,←hopn2] at hD3 ⊢
 have hva:=C12 (l:=ch2) (p:=(p:Int)) (by omega)
 refine k1 (A2 (G4 V V V V (A3 V V (A5 (F3 V V V (by omega) (by (rw [hl2];omega))) V ?_))));refine A5 (M2 V V hva V) V (A5 (b8 V V (by (rw [J16];omega))) V ?_);refine A5 (F3 V V V (by omega) (by (rw [hl2];omega))) V ?_;refine H1 (I4 TySz.out V V (by (rw [hl2];omega)) V V) ?_;refine A4 ?_;refine k4 (k1 (A2 (D1 V V V (A3 V V (A4 ?_)))));refine k1 ?_
 exact ⟨(i+1,bump ch2 p,opn2),⟨hilt,hD3⟩,by dsimp only;omega,(I89 ⟨le1 rfl,le1 rfl,le1 rfl,le1 rfl,le1 rfl,le1 rfl,le1 rfl,trivial⟩ ⟨rfl,rfl,rfl,rfl,trivial⟩)⟩
set_option maxHeartbeats 1000000
abbrev A93 (g:Graph):Ob:=.box [.mut 741,.fnc 52 [.list Commit 3 F6 g]]
abbrev sI (n:Int):S1:=.one (.p (.v (.int .i64 n)))
abbrev sIf (n:Int):S1:=.one (.p (.v (.iface 3 (.int .i64 n))))
abbrev E56:S1:=.one (.ifc 87 740 0)
theorem H57 {g:Graph} {c:Int} (h:0≤c∧c < g.length):∃cm,g[c.toNat]?=some cm∧W4 g c.toNat=cm.Date:=by
 have hlt:c.toNat < g.length:=by omega
 exact ⟨g[c.toNat],by simp [hlt],by unfold W4;rw [J14 hlt];rfl⟩
theorem I06 (g:Graph) (a b:Int) (_hg:g.length≤1048576) (ha:0≤a∧a < g.length) (hb:0≤b∧b < g.length):FnOk Tryz.prog 52 [I1 g,E6 a,E6 b] (fun rs=>rs=[H8 (S7 g a b)]):=by
 obtain ⟨x,hx,dx⟩:=H57 ha
 obtain ⟨y,hy,dy⟩:=H57 hb
 unfold S7
 rw [dx,dy]
 refine FnOk.intro Tryz.func52 (by decide) V V V V ?_
 refine k2 (A2 (A6 V V (A4 ?_)));refine k1 (k2 (k2 (D9 (by kernel_rfl) (by kernel_rfl) (D8 V V (D8 V V (B5 (A8 V (.pure _ _ _ _) V (by omega) hx) V V (B5 (B8 V) V V (B5 (A7 V V) V V (D8 V V (D8 V V (B5 (A8 V (.pure _ _ _ _) V (by omega) hy) V V (B5 (B8 V) V V (B5 (A7 V V) V V (B5 (Q9 V V) V V (N3 ?_)))))))))))))));refine k1 ?_;refine B0 rfl (fun ht=>?_) (fun ht=>?_)
 ·have h1:x.Date≠y.Date:=A0 ht
  refine k2 (D9 (by kernel_rfl) (by kernel_rfl) (D8 V V (D8 V V (B5 (A8 V (.pure _ _ _ _) V (by omega) hx) V V (B5 (B8 V) V V (B5 (A7 V V) V V (D8 V V (D8 V V (B5 (A8 V (.pure _ _ _ _) V (by omega) hy) V V (B5 (B8 V) V V (B5 (A7 V V) V V (B5 (L7 V V) V V (B5 (H5 V V) V V (N3 ?_))))))))))))));refine k1 (k10 (k11 ?_));refine B6 (G7 rfl rfl rfl) (congrArg (fun b=>[H8 b]) (decide_eq_decide.2 ?_))
  omega
 ·have h1:¬x.Date≠y.Date:=A1 ht
  refine k5 (k1 (k2 (A2 (A3 V V (A3 V V (E7 V V V (A6 V V (A4 ?_))))))));refine k1 (k10 ?_);refine B6 (G7 rfl rfl rfl) (congrArg (fun b=>[H8 b]) (decide_eq_decide.2 ?_))
  omega
theorem D99 {gf:Fr} {ob:Obs} (g:Graph) (l:List Int) (h0:B9 ob 740=some (A93 g)) (h1:B9 ob 741=some (T5 l)) :
  AL.Met Tryz.prog 54 [.one (.ref 740 0)] gf ob [] (fun rs ob'=>rs=[sI l.length]∧ob'=ob):=by
 refine AL.Met.intro Tryz.func54 (by decide) V V V ?_
 refine k2 (A2 (A6 V V (A4 ?_)));refine k1 (k2 (A2 (A3 V V (A5 (B4 V) V (A5 (A9 V) V (A5 (C4 V h0 V) V (A5 (X0 V h1) V (A6 V V (A4 ?_)))))))));refine k1 (k10 ?_)
 exact G5 (K6 rfl rfl) (by repeat (first | exact B2 | refine B3 rfl ?_ | refine D5 _ ?_)) (fun _ _ h=>h) ⟨rfl,rfl⟩
theorem C92 {gf:Fr} {ob:Obs} (g:Graph) (l:List Int) (i j:Nat) (hg:g.length≤1048576) (hl:∀x∈l,0≤x∧x < (g.length:Int)) (hi:i < l.length) (hj:j < l.length) (h0:B9 ob 740=some (A93 g)) (h1:B9 ob 741=some (T5 l)) :
  AL.Met Tryz.prog 228 [.one (.ref 740 0),sI i,sI j] gf ob [] (fun rs ob'=>rs=[.one (.p (.v (.bool (S7 g (atG l i) (atG l j)))))]∧ob'=ob):=by
 have hvi:l[((i:Nat):Int).toNat]?=some (atG l i):=by rw [J16,P2 hi];simp [hi]
 have hvj:l[((j:Nat):Int).toNat]?=some (atG l j):=by rw [J16,P2 hj];simp [hj]
 have hb:=I06 g (atG l i) (atG l j) hg (by rw [P2 hi];exact hl _ (J18 hi)) (by rw [P2 hj];exact hl _ (J18 hj))
 refine AL.Met.intro Tryz.func228 (by decide) V V V ?_
 refine k2 (A2 (A6 V V (A4 ?_)));refine k1 (k2 (D9 (by kernel_rfl) (by kernel_rfl) (D8 V V (B5 (B4 V) V V (B5 (A9 V) V V (B5 (C4 V h0 V) V V (D8 V V (B5 (B4 V) V V (B5 (A9 V) V V (B5 (C4 V h0 V) V V (D8 V V (B5 (I2 V h1 V (by omega) (by omega)) V V (B5 (A12 V h1 hvi V) V V (D8 V V (B5 (B4 V) V V (B5 (A9 V) V V (B5 (C4 V h0 V) V V (D8 V V (B5 (I2 V h1 V (by omega) (by omega)) V V (B5 (A12 V h1 hvj V) V V (B5 (n_callC (hb) V V V) V V (B5 (H5 V V) V V (N3 ?_)))))))))))))))))))))));refine k1 (k10 ?_)
 exact G5 (K6 rfl rfl) (by repeat (first | exact B2 | refine B3 rfl ?_ | refine D5 _ ?_)) (fun _ _ h=>h) ⟨rfl,rfl⟩
theorem C93 {gf:Fr} {ob:Obs} (g:Graph) (l:List Int) (i j:Nat) (hi:i < l.length) (hj:j < l.length) (h0:B9 ob 740=some (A93 g)) (h1:B9 ob 741=some (T5 l)) :
  AL.Met Tryz.prog 231 [.one (.ref 740 0),sI i,sI j] gf ob [] (fun rs ob'=>rs=[]∧ob'=(741,T5 (Z7 l i j))::ob):=by
 have hvi:l[((i:Nat):Int).toNat]?=some (atG l i):=by rw [J16,P2 hi];simp [hi]
 have hvj:l[((j:Nat):Int).toNat]?=some (atG l j):=by rw [J16,P2 hj];simp [hj]
 obtain ⟨a,ha⟩:∃a,a=atG l i:=⟨_,rfl⟩
 obtain ⟨b,hb⟩:∃b,b=atG l j:=⟨_,rfl⟩
 rw [←ha] at hvi
 rw [←hb] at hvj
 have hvj2:(l.set ((i:Nat):Int).toNat b)[((j:Nat):Int).toNat]?=some (atG (l.set i b) j):=by
  rw [J16,J16]
  have:j < (l.set i b).length:=by rw [J39];exact hj
  rw [P2 this];simp [hj]
 have hsw:(l.set ((i:Nat):Int).toNat b).set ((j:Nat):Int).toNat a=Z7 l i j:=by rw [ha,hb];rfl
 have h0':B9 ((741,T5 l)::ob) 740=some (A93 g):=by rw [C3 (by decide)];exact h0
 refine AL.Met.introH Tryz.func231 (by decide) rfl rfl rfl (fun hH=>?_)
 refine E2 (I90 (l:=[(0,.s (.one (.ref 740 0))),(1,C0 i),(2,C0 j)]) (ob':=(741,T5 l)::ob) ⟨le1 rfl,le1 rfl,le1 rfl,trivial⟩ hH (by repeat (first | exact B2 | refine B3 rfl ?_)) (E5 (L:=[(741,_)]) ⟨h1,trivial⟩ D6)) ?_
 skip
 refine O2 [27,25] [[],[25],[27,25]] [(25,([],[])),(27,([],[]))] [(0,[]),(1,[]),(2,[]),(3,[]),(4,[]),(5,[]),(6,[]),(7,[]),(8,[]),(9,[]),(10,[]),(11,[]),(12,[]),(13,[]),(14,[]),(15,[]),(16,[]),(17,[]),(18,[]),(19,[]),(20,[]),(21,[]),(22,[]),(23,[]),(24,[]),(25,[]),(26,[25]),(27,[25])] [(9,[25])] (by kernel_rfl) (by kernel_rfl) (E4 V V (by kernel_rfl) V V (B7 V V) (E4 V V (by kernel_rfl) V V (B4 V) (E4 V V (by kernel_rfl) V V (A9 V) (E4 V V (by kernel_rfl) V V (C4 V h0' V) (E4 V V (by kernel_rfl) V V (B7 V V) (E4 V V (by kernel_rfl) V V (B7 V V) (E4 V V (by kernel_rfl) V V (B4 V) (E4 V V (by kernel_rfl) V V (A9 V) (E4 V V (by kernel_rfl) V V (C4 V h0' V) (E4 V V (by kernel_rfl) V V (B7 V V) (E4 V V (by kernel_rfl) V V (B7 V V) (E4 V V (by kernel_rfl) V V (B4 V) (E4 V V (by kernel_rfl) V V (A9 V) (E4 V V (by kernel_rfl) V V (C4 V h0' V) (E4 V V (by kernel_rfl) V V (B7 V V) (E4 V V (by kernel_rfl) V V (I2 V V V (by omega) (by omega)) (E4 V V (by kernel_rfl) V V (A12 V V hvj V) (E4 V V (by kernel_rfl) V V (B7 V V) (E4 V V (by kernel_rfl) V V (B4 V) (E4 V V (by kernel_rfl) V V (A9 V) (E4 V V (by kernel_rfl) V V (C4 V h0' V) (E4 V V (by kernel_rfl) V V (B7 V V) (E4 V V (by kernel_rfl) V V (I2 V V V (by omega) (by (first | omega | (rw [J39];omega)))) ?_)))))))))))))))))))))));refine E4 V V (by kernel_rfl) V V (A12 V V hvi V) (E4 V V (by kernel_rfl) V V (I2 V V V (by omega) (by omega)) (X8 V V (by kernel_rfl) V V (A27 (fun frc hU=>A68 (b) TySz.out (S6 hU V) V hvi (S6 hU V) V V V (fun _ _ _ h=>A10 h) (by intro j h1 h2;rcases j with _ | _ | _ | _ | _ | _ | _ | j<;>first | rfl | omega))) V ?_));refine E4 V V (by kernel_rfl) V V (I2 V V V (by omega) (by (rw [J39];omega))) ?_;refine X8 V V (by kernel_rfl) V V (A27 (fun frc hU=>A68 (a) TySz.out (S6 hU V) V hvj2 (S6 hU V) V V V (fun _ _ _ h=>A10 h) (by intro j h1 h2;rcases j with _ | _ | _ | _ | _ | _ | _ | j<;>first | rfl | omega))) V ?_;refine E75 (by kernel_rfl) rfl ?_ ?_
 ·refine M6 V V (by kernel_rfl) V V (B7 V V) ?_;exact B31
 rw [hsw]
 skip
 exact S9 (A67 rfl) (by repeat (first | exact B2 | refine tail_drop rfl ?_ | refine B3 rfl ?_)) (E5 (L:=[(741,_)]) ⟨rfl,trivial⟩ (by repeat (first | exact D6 | refine D7 rfl ?_))) ⟨rfl,rfl⟩
theorem I07 {gf:Fr} {ob:Obs} (g:Graph) (l:List Int) (c:Int) (hl:l.length≤1048576) (h0:B9 ob 740=some (A93 g)) (h1:B9 ob 741=some (T5 l)) :
  AL.Met Tryz.prog 230 [.one (.ref 740 0),sIf c] gf ob [741] (fun rs ob'=>rs=[]∧ob'=(740,A93 g)::(741,T5 (l++[c]))::Obs.forget 741 ob):=by
 refine AL.Met.introH Tryz.func230 (by decide) rfl rfl rfl (fun hH=>?_)
 refine E2 (I91 741 (l:=[(0,.s (.one (.ref 740 0))),(1,.s (sIf c))]) (L:=[(740,_),(741,_)]) ⟨le1 rfl,le1 rfl,trivial⟩ hH (by repeat (first | exact B2 | refine B3 rfl ?_)) ⟨h0,h1,trivial⟩) ?_
 skip
 refine O2 [11,8] [[],[8],[11,8]] [(8,([741],[8])),(11,([],[]))] [(0,[]),(1,[]),(2,[]),(3,[]),(4,[]),(5,[]),(6,[]),(7,[]),(8,[]),(9,[8]),(10,[8]),(11,[8])] [(0,[8])] (by kernel_rfl) (by kernel_rfl) (E4 V V (by kernel_rfl) V V (B7 V V) (E4 V V (by kernel_rfl) V V (B7 V V) (E4 V V (by kernel_rfl) V V (B4 V) (E4 V V (by kernel_rfl) V V (A9 V) (E4 V V (by kernel_rfl) V V (C4 V V V) (E4 V V (by kernel_rfl) V V (B7 V V) (E4 V V (by kernel_rfl) V V (D12 V V) (E4 V V (by kernel_rfl) V V (C1 (c:=E3) (ys:=[c]) (D2 V V V V F1) V V V) (X8 V V (by kernel_rfl) V V (C86 (fun frc hU=>T0 (S6 hU V) V (S6 hU V) (.pure _ _ _ _) (by (simp only [J17,J21];omega)) V)) V (E4 V V (by kernel_rfl) V V (B4 V) (E4 V V (by kernel_rfl) V V (A9 V) (X8 V V (by kernel_rfl) V V (A27 (fun frc hU=>C2 TySz.out (S6 hU V) V (S6 hU V) V V V)) V ?_))))))))))));refine C87 (ks:=[741]) rfl (by kernel_rfl) rfl ?_ ?_
 ·refine M6 V V (by kernel_rfl) V V (B7 V V) ?_;exact B31
 skip
 exact S9 (A67 rfl) (by repeat (first | exact B2 | refine tail_drop rfl ?_ | refine B3 rfl ?_ | refine J9 _ ?_ | refine D5 _ ?_)) (E5 (L:=[(740,_),(741,_)]) ⟨rfl,rfl,trivial⟩ (by repeat (first | exact D6 | refine D7 rfl ?_ | refine Q6 _ ?_))) ⟨rfl,rfl⟩
theorem I62 {gf:Fr} {ob:Obs} (g:Graph) (l:List Int) (hl:l.length≤1048576) (h2:0 < l.length) (h0:B9 ob 740=some (A93 g)) (h1:B9 ob 741=some (T5 l)) :
  AL.Met Tryz.prog 229 [.one (.ref 740 0)] gf ob [741] (fun rs ob'=>rs=[sIf (atG l (l.length - 1))]∧ob'=(740,A93 g)::(741,T5 (l.take (l.length - 1)))::Obs.forget 741 ob):=by
 have hlt:l.length - 1 < l.length:=by omega
 have hv:l[((l.length:Int) - 1).toNat]?=some (atG l (l.length - 1)):=by rw [show ((l.length:Int) - 1).toNat=l.length - 1 by omega,P2 hlt];simp [hlt]
 have hc:l.take ((l.length:Int) - 1).toNat=l.take (l.length - 1):=by congr 1;omega
 refine AL.Met.introH Tryz.func229 (by decide) rfl rfl rfl (fun hH=>?_)
 refine E2 (I91 741 (l:=[(0,.s (.one (.ref 740 0)))]) (L:=[(740,_),(741,_)]) ⟨le1 rfl,trivial⟩ hH (by repeat (first | exact B2 | refine B3 rfl ?_)) ⟨h0,h1,trivial⟩) ?_
 refine k2 (A2 (A6 V V (A4 ?_)));refine k1 (k2 (A2 (A3 V V (A5 (B4 V) V (A5 (A9 V) V (G4 V V V V (A5 (X0 V V) V (A5 (K9 V V (by omega)) V (A6 V V (A4 ?_))))))))));refine k1 (k2 (A2 (A3 V V (A5 (B4 V) V (A5 (A9 V) V (G4 V V V V (A3 V V (A5 (I2 V V V (by omega) (by omega)) V (A5 (A12 V V hv V) V (A6 V V (A4 ?_)))))))))));refine k1 (k2 (A2 (A3 V V (A3 V V (A5 (B4 V) V (A5 (A9 V) V (G4 V V V V (A3 V V (C6 (B66 V V V (by omega) (by omega) V) V (A5 (B4 V) V (A5 (A9 V) V (H1 (C2 TySz.out V V V V V V) (A4 ?_)))))))))))))
 rw [hc]
 refine k1 (k2 (A2 (A3 V V (A5 (C09 V (by kernel_rfl)) V (A6 V V (A4 ?_))))));refine k1 (k10 ?_)
 exact G5 (K6 rfl rfl) (by repeat (first | exact B2 | refine B3 rfl ?_ | refine J9 _ ?_ | refine D5 _ ?_)) (E5 (L:=[(740,_),(741,_)]) ⟨rfl,rfl,trivial⟩ (by repeat (first | exact D6 | refine D7 rfl ?_ | refine Q6 _ ?_))) ⟨rfl,rfl⟩
theorem up_div (j:Nat) (hj:j≤1048576):IntKind.i64.wrap (((j:Int) - 1).tdiv 2)=(((j - 1) / 2:Nat):Int):=by
 have h:((j:Int) - 1).tdiv 2=(((j - 1) / 2:Nat):Int):=by
  cases j with
  | zero=>rfl
  | succ j =>
   rw [show (((j+1:Nat):Int) - 1)=(j:Int) by omega,Int.tdiv_eq_ediv_of_nonneg (by omega)]
   omega
 rw [h]
 exact IntWalk.i64_in _ ⟨by omega,by omega⟩
theorem E00 {l:List Int} {n:Int} {i j:Nat} (hi:i < l.length) (hj:j < l.length) (h:∀x∈l,0≤x∧x < n):∀x∈Z7 l i j,0≤x∧x < n:=fun x hx=>h x ((F08 hi hj x).1 hx)
theorem hUp_met {gf:Fr} {ob:Obs} (g:Graph) (l:List Int) (j:Nat) (hg:g.length≤1048576) (hl:l.length≤1048576) (hr:∀x∈l,0≤x∧x < (g.length:Int)) (hj:j < l.length) (h0:B9 ob 740=some (A93 g)) (h1:B9 ob 741=some (T5 l)) :
  AL.Met Tryz.prog 80 [E56,sI j] gf ob [] (fun rs ob'=>rs=[]∧ob'=(741,T5 (upH (S7 g) (j+1) l j))::ob):=by
 have h0':∀o,B9 ((741,o)::ob) 740=some (A93 g):=fun o=>by rw [C3 (by decide)];exact h0
 refine AL.Met.introH Tryz.func80 (by decide) rfl rfl rfl (fun hH=>?_)
 refine k3 ?_
 obtain ⟨R,hR⟩:∃R,R=upH (S7 g) (j+1) l j:=⟨_,rfl⟩
 rw [←hR]
 refine C5 (X:=Nat × List Int × Nat) (fun x=>([(0,.s E56),(1,C0 x.2.2)]++gf,(741,T5 x.2.1)::ob)) (fun x=>upH (S7 g) x.1 x.2.1 x.2.2=R∧x.2.2 < x.1∧x.2.1.length=l.length∧x.2.2 < l.length∧∀y∈x.2.1,0≤y∧y < (g.length:Int)) (fun x=>x.1) (j+1,l,j) ⟨hR.symm,by dsimp only;omega,rfl,hj,hr⟩ ?_ ?_
 ·exact I90 ⟨le1 rfl,le1 rfl,trivial⟩ hH (by repeat (first | exact B2 | refine B3 rfl ?_)) (E5 (L:=[(741,_)]) ⟨h1,trivial⟩ D6)
 rintro ⟨f,l',k⟩ ⟨hu,hkf,hll,hkl,hrg⟩
 dsimp only at hu hkf hll hkl hrg ⊢
 obtain ⟨f,rfl⟩:∃f',f=f'+1:=⟨f - 1,by omega⟩
 rw [upH] at hu
 have hdv:=up_div k (by omega)
 have hil:(k - 1) / 2 < l'.length:=by omega
 refine k3 (k2 (A2 (A3 V V (A5 (K9 V V (by omega)) V (A5 (D45 V V (by decide)) V (A6 V V (A4 ?_)))))))
 rw [hdv]
 refine k1 (k2 (k2 ?_))
 by_cases he:(k - 1) / 2=k
 ·rw [if_pos (.inl he)] at hu
  have hd:decide ((((k - 1) / 2:Nat):Int)=(k:Int))=true:=decide_eq_true (by omega)
  refine A2 (A3 V V (A3 V V (A5 (F8 V V) V (A3 V V (R2 V V V (by rw [hd];decide) V ?_)))));refine R2 V V V (by rw [hd];decide) V ?_;refine R2 V V V (by rw [hd];decide) V ?_;refine R2 V V V (by rw [hd];decide) V ?_;refine R2 V V V (by rw [hd];decide) V ?_;refine A5 (V8 V (hd) V) V (A4 ?_);refine k1 ?_;refine B0 rfl (fun ht=>?_) (fun ht=>?_)
  ·refine k6 (k7 (k9 V (k7 (k8 V ?_))))
   rw [←hu]
   exact S9 (A67 rfl) (by repeat (first | exact B2 | refine B3 rfl ?_ | refine D5 _ ?_)) (fun _ _ h=>h) ⟨rfl,rfl⟩
  ·cases ht
 ·have hd:decide ((((k - 1) / 2:Nat):Int)=(k:Int))=false:=decide_eq_false (by omega)
  refine A2 (A3 V V (A3 V V (A5 (F8 V V) V (A3 V V (H9 V V V hd (A3 V V (H9 V V V hd (A3 V V (H9 V V V hd (A3 V V (H9 V V V hd (A47 (fun a vs w=>by kernel_rfl) (C92 g l' k ((k - 1) / 2) hg hrg (by omega) hil (h0' _) V) V V V V ?_))))))))))));rintro _ _ ⟨rfl,rfl⟩;refine H9 V V V hd (A5 (R7 V) V (A5 (C36 V (hd) V) V (A4 ?_)));refine k1 ?_;refine B0 rfl (fun ht=>?_) (fun ht=>?_)
  ·have hb:S7 g (atG l' k) (atG l' ((k - 1) / 2))=false:=by simpa using ht
   rw [if_pos (.inr hb)] at hu
   refine k6 (k7 (k9 V (k7 (k8 V ?_))))
   rw [←hu]
   exact S9 (A67 rfl) (by repeat (first | exact B2 | refine B3 rfl ?_ | refine D5 _ ?_)) (fun _ _ h=>h) ⟨rfl,rfl⟩
  ·have hb:S7 g (atG l' k) (atG l' ((k - 1) / 2))=true:=by simpa using ht
   rw [if_neg (by rw [hb];simp [he])] at hu
   refine k5 (k1 (k2 (A2 (A3 V V (A3 V V (A3 V V (A47 (fun a vs w=>by kernel_rfl) (C93 g l' ((k - 1) / 2) k hil (by omega) (h0' _) V) V V V V ?_)))))));rintro _ _ ⟨rfl,rfl⟩;refine A4 ?_;refine k1 (A2 (A3 V V (A6 V V (A4 ?_))));refine k4 (k1 ?_);refine ⟨(f,Z7 l' ((k - 1) / 2) k,(k - 1) / 2),⟨hu,by dsimp only;omega,by dsimp only;rw [N6];exact hll,by dsimp only;omega,E00 hil (by omega) hrg⟩,by dsimp only;omega,?_⟩
   exact I90 ⟨le1 rfl,le1 rfl,trivial⟩ hH (by repeat (first | exact B2 | refine B3 rfl ?_)) (E5 (L:=[(741,_)]) ⟨rfl,trivial⟩ (by repeat (first | exact D6 | refine D7 rfl ?_)))
theorem I08 {gf:Fr} {ob:Obs} (g:Graph) (l:List Int) (n:Nat) (hg:g.length≤1048576) (hl:l.length≤1048576) (hr:∀x∈l,0≤x∧x < (g.length:Int)) (hn:n≤l.length) (h0:B9 ob 740=some (A93 g)) (h1:B9 ob 741=some (T5 l)) :
  AL.Met Tryz.prog 81 [E56,sI 0,sI n] gf ob [] (fun rs ob'=>∃b,rs=[.one (.p (.v (.bool b)))]∧ob'=(741,T5 (A19 (S7 g) n (n+1) l 0))::ob):=by
 have h0':∀o,B9 ((741,o)::ob) 740=some (A93 g):=fun o=>by rw [C3 (by decide)];exact h0
 refine AL.Met.introH Tryz.func81 (by decide) rfl rfl rfl (fun hH=>?_)
 refine k2 (A2 (A6 V V (A4 ?_)));refine k1 (k2 (A2 (A3 V V (A6 V V (A4 ?_)))));refine k1 (k2 (k3 ?_))
 obtain ⟨R,hR⟩:∃R,R=A19 (S7 g) n (n+1) l 0:=⟨_,rfl⟩
 rw [←hR]
 refine C5 (X:=Nat × List Int × Nat) (fun x=>([(0,.s E56),(1,C0 0),(2,C0 n),(7,C0 x.2.2)]++gf,(741,T5 x.2.1)::ob)) (fun x=>A19 (S7 g) n x.1 x.2.1 x.2.2=R∧n < x.1+x.2.2∧x.2.1.length=l.length∧x.2.2≤l.length∧∀y∈x.2.1,0≤y∧y < (g.length:Int)) (fun x=>x.1) (n+1,l,0) ⟨hR.symm,by dsimp only;omega,rfl,Nat.zero_le _,hr⟩ ?_ ?_
 ·exact I90 ⟨le1 rfl,le1 rfl,le1 rfl,le1 rfl,trivial⟩ hH (by repeat (first | exact B2 | refine B3 rfl ?_)) (E5 (L:=[(741,_)]) ⟨h1,trivial⟩ D6)
 rintro ⟨f,l',i⟩ ⟨hu,hkf,hll,hil,hrg⟩
 dsimp only at hu hkf hll hil hrg ⊢
 have hstop:n≤2*i+1→l'=R:=fun h=>by
  cases f with
  | zero=>exact hu
  | succ f=>rw [A19,if_pos h] at hu;exact hu
 refine k3 (k2 (A2 (A3 V V (A5 (A63 V V (by omega)) V (D1 V V V (A6 V V (A4 ?_)))))));refine k1 (k2 (k2 (A2 (A3 V V (A3 V V (A5 (X7 V V) V (A3 V V (B1 V V V V (fun hg=>by rw [hg];exact B7 V V) ?_))))))));refine B1 V V V V (fun hg=>by rw [hg];exact A04 V V) ?_;refine I5 V V ?_;refine A4 ?_;refine k1 ?_;refine B0 rfl (fun ht=>?_) (fun ht=>?_)
 ·have h3:=A0 (or_pick.symm.trans ht)
  rw [hstop (by omega)]
  refine k6 (k2 (A2 (A3 V V (A3 V V (A5 (L7 V V) V (A6 V V (A4 ?_)))))));refine k1 (k10 ?_)
  exact G5 (K6 rfl rfl) (by repeat (first | exact B2 | refine B3 rfl ?_ | refine D5 _ ?_)) (fun _ _ h=>h) ⟨_,rfl,rfl⟩
 have h3:=A1 (or_pick.symm.trans ht)
 have hj1:2*i+1 < n:=by omega
 obtain ⟨f,rfl⟩:∃f',f=f'+1:=⟨f - 1,by omega⟩
 rw [A19,if_neg (by omega)] at hu
 obtain ⟨c1,c2,c3⟩:=H77 (bf:=S7 g) (l:=l') hj1
 have hlow:D43 (S7 g) n l' i=if 2*i+2 < n∧S7 g (atG l' (2*i+2)) (atG l' (2*i+1))=true then 2*i+2 else 2*i+1:=rfl
 obtain ⟨j,hj⟩:∃j,j=D43 (S7 g) n l' i:=⟨_,rfl⟩
 rw [←hj] at hu c1 c2 c3 hlow
 rw [show 2*(i:Int)+1=((2*i+1:Nat):Int) by omega]
 refine k5 (k1 (k2 (A2 (A3 V V (A6 V V (A4 ?_))))));refine k1 (k2 (k2 (A2 (A3 V V (D1 V V V (A6 V V (A4 ?_)))))))
 rw [show ((2*i+1:Nat):Int)+1=((2*i+2:Nat):Int) by omega]
 refine k1 (k2 ?_)
 obtain ⟨B,hB⟩:∃B,B=(decide (2*i+2 < n)&&S7 g (atG l' (2*i+2)) (atG l' (2*i+1))):=⟨_,rfl⟩
 have hlow2:j=if B=true then 2*i+2 else 2*i+1:=by rw [hlow,hB];simp only [J15,decide_eq_true_eq]
 refine F27 ([(0,.s E56),(1,C0 0),(2,C0 n),(7,C0 i),(9,C0 ((2*i+1:Nat):Int)),(10,C0 ((2*i+2:Nat):Int)),(33,P6 B)]++gf) ((741,T5 l')::ob) ?_ ?_
 ·by_cases h2:2*i+2 < n
  ·have hd:decide (((2*i+2:Nat):Int) < (n:Int))=true:=decide_eq_true (by omega)
   have hBe:B=S7 g (atG l' (2*i+2)) (atG l' (2*i+1)):=by rw [hB,decide_eq_true h2,Bool.true_and]
   rw [hBe]
   refine A2 (A3 V V (A3 V V (E7 V V V (A3 V V (H9 V V V hd (A3 V V (H9 V V V hd (A3 V V (H9 V V V hd (A3 V V (H9 V V V hd (A47 (fun a vs w=>by kernel_rfl) (C92 g l' (2*i+2) (2*i+1) hg hrg (by omega) (by omega) (h0' _) V) V V V V ?_))))))))))));rintro _ _ ⟨rfl,rfl⟩;refine A5 (V8 V (hd) V) V (A4 ?_);refine k1 ?_
   exact I90 ⟨le1 rfl,le1 rfl,le1 rfl,le1 rfl,le1 rfl,le1 rfl,le1 rfl,trivial⟩ hH (by repeat (first | exact B2 | refine B3 rfl ?_)) (fun _ _ h=>h)
  ·have hd:decide (((2*i+2:Nat):Int) < (n:Int))=false:=decide_eq_false (by omega)
   have hBe:B=false:=by rw [hB,decide_eq_false h2,Bool.false_and]
   rw [hBe]
   refine A2 (A3 V V (A3 V V (E7 V V V (A3 V V (R2 V V V (by rw [hd];decide) V ?_)))));refine R2 V V V (by rw [hd];decide) V ?_;refine R2 V V V (by rw [hd];decide) V ?_;refine R2 V V V (by rw [hd];decide) V ?_;refine A5 (C36 V (hd) V) V (A4 ?_);refine k1 ?_
   exact I90 ⟨le1 rfl,le1 rfl,le1 rfl,le1 rfl,le1 rfl,le1 rfl,le1 rfl,trivial⟩ hH (by repeat (first | exact B2 | refine B3 rfl ?_)) (fun _ _ h=>h)
 skip
 refine F27 ([(0,.s E56),(1,C0 0),(2,C0 n),(7,C0 i),(9,C0 j)]++gf) ((741,T5 l')::ob) ?_ ?_
 ·refine B0 rfl (fun ht=>?_) (fun ht=>?_)
  ·rw [if_pos ht] at hlow2
   skip
   refine A2 (A3 V V (A6 V V (A4 ?_)));refine k1 ?_
   rw [hlow2]
   exact I90 ⟨le1 rfl,le1 rfl,le1 rfl,le1 rfl,le1 rfl,trivial⟩ hH (by repeat (first | exact B2 | refine B3 rfl ?_)) (fun _ _ h=>h)
  ·rw [if_neg (by rw [ht];decide)] at hlow2
   refine k5 (k1 ?_)
   rw [hlow2]
   exact I90 ⟨le1 rfl,le1 rfl,le1 rfl,le1 rfl,le1 rfl,trivial⟩ hH (by repeat (first | exact B2 | refine B3 rfl ?_)) (fun _ _ h=>h)
 refine k2 (k2 (A2 (A3 V V (A3 V V (A3 V V (A47 (fun a vs w=>by kernel_rfl) (C92 g l' j i hg hrg (by omega) (by omega) (h0' _) V) V V V V ?_))))));rintro _ _ ⟨rfl,rfl⟩;refine A5 (R7 V) V (A4 ?_);refine k1 ?_;refine B0 rfl (fun ht=>?_) (fun ht=>?_)
 ·have hb:S7 g (atG l' j) (atG l' i)=false:=by simpa using ht
  rw [if_pos hb] at hu
  rw [←hu]
  refine k6 (k2 (A2 (A3 V V (A3 V V (A5 (L7 V V) V (A6 V V (A4 ?_)))))));refine k1 (k10 ?_)
  exact G5 (K6 rfl rfl) (by repeat (first | exact B2 | refine B3 rfl ?_ | refine D5 _ ?_)) (fun _ _ h=>h) ⟨_,rfl,rfl⟩
 ·have hb:S7 g (atG l' j) (atG l' i)=true:=by simpa using ht
  rw [if_neg (by rw [hb];decide)] at hu
  refine k5 (k1 (k2 (A2 (A3 V V (A3 V V (A3 V V (A47 (fun a vs w=>by kernel_rfl) (C93 g l' i j (by omega) (by omega) (h0' _) V) V V V V ?_)))))));rintro _ _ ⟨rfl,rfl⟩;refine A4 ?_;refine k1 (A2 (A3 V V (A6 V V (A4 ?_))));refine k4 (k1 ?_);refine ⟨(f,Z7 l' i j,j),⟨hu,by dsimp only;omega,by dsimp only;rw [N6];exact hll,by dsimp only;omega,E00 (by omega) (by omega) hrg⟩,by dsimp only;omega,?_⟩
  exact I90 ⟨le1 rfl,le1 rfl,le1 rfl,le1 rfl,trivial⟩ hH (by repeat (first | exact B2 | refine B3 rfl ?_)) (E5 (L:=[(741,_)]) ⟨rfl,trivial⟩ (by repeat (first | exact D6 | refine D7 rfl ?_)))
set_option maxHeartbeats 1000000
theorem E93 {gf:Fr} {ob:Obs} (g:Graph) (l:List Int) (c:Int) (hg:g.length≤1000) (hl:l.length≤1000) (hr:∀x∈l,0≤x∧x < (g.length:Int)) (hc:0≤c∧c < g.length) (h0:B9 ob 740=some (A93 g)) (h1:B9 ob 741=some (T5 l)) :
  AL.Met Tryz.prog 53 [E56,sIf c] gf ob [741] (fun rs ob'=>rs=[]∧ob'=(740,A93 g)::(741,T5 (C71 (S7 g) l c))::Obs.forget 741 ob):=by
 have hr2:∀x∈l++[c],0≤x∧x < (g.length:Int):=fun x hx=>by
  rcases List.mem_append.1 hx with hx | hx
  ·exact hr x hx
  ·rw [List.mem_singleton.1 hx];exact hc
 have hla:(l++[c]).length=l.length+1:=by simp
 have hp:upH (S7 g) (l.length+1) (l++[c]) l.length=C71 (S7 g) l c:=rfl
 refine AL.Met.introH Tryz.func53 (by decide) rfl rfl rfl (fun hH=>?_)
 refine E2 (I91 741 (l:=[(0,.s E56),(1,.s (sIf c))]) (L:=[(740,_),(741,_)]) ⟨le1 rfl,le1 rfl,trivial⟩ hH (by repeat (first | exact B2 | refine B3 rfl ?_)) ⟨h0,h1,trivial⟩) ?_
 refine k2 (A2 (A3 V V (A3 V V (A47 (fun a vs w=>by kernel_rfl) (I07 g l c (by omega) V V) V V V V ?_))));rintro _ _ ⟨rfl,rfl⟩;refine A4 ?_;refine k1 (A2 (A3 V V (A3 V V (A47 (fun a vs w=>by kernel_rfl) (D99 g (l++[c]) V V) V V V V ?_))));rintro _ _ ⟨rfl,rfl⟩;refine A5 (K9 V V (by (rw [hla];omega))) V ?_;refine L1 ((by rw [hla,show (((l.length+1:Nat):Int)) - 1=((l.length:Nat):Int) by omega];exact hUp_met g (l++[c]) l.length (by omega) (by omega) hr2 (by omega) V V)) V V V ?_;rintro _ _ ⟨rfl,rfl⟩;refine A4 ?_
 rw [hp]
 skip
 exact S9 (A67 rfl) (by repeat (first | exact B2 | refine B3 rfl ?_ | refine J9 _ ?_ | refine D5 _ ?_)) (E5 (L:=[(740,_),(741,_)]) ⟨rfl,rfl,trivial⟩ (by repeat (first | exact D6 | refine D7 rfl ?_ | refine Q6 _ ?_))) ⟨rfl,rfl⟩
theorem I63 {gf:Fr} {ob:Obs} (g:Graph) (l:List Int) (hg:g.length≤1000) (hl:l.length≤1000) (h2:0 < l.length) (hr:∀x∈l,0≤x∧x < (g.length:Int)) (h0:B9 ob 740=some (A93 g)) (h1:B9 ob 741=some (T5 l)) :
  AL.Met Tryz.prog 55 [E56] gf ob [741] (fun rs ob'=>rs=[sIf (atG (C27 (S7 g) l) (l.length - 1))]∧ob'=(740,A93 g)::(741,T5 ((C27 (S7 g) l).take (l.length - 1)))::Obs.forget 741 ob):=by
 have hsl:=N6 l 0 (l.length - 1)
 have hsr:=E00 (n:=(g.length:Int)) (i:=0) (j:=l.length - 1) h2 (by omega) hr
 have hdn:A19 (S7 g) (l.length - 1) (l.length - 1+1) (Z7 l 0 (l.length - 1)) 0=C27 (S7 g) l:=by unfold C27;rw [show l.length - 1+1=l.length by omega]
 have hpl:(C27 (S7 g) l).length=l.length:=by
  rw [←hdn]
  exact (by
   have key:∀(f i:Nat) (x:List Int),(A19 (S7 g) (l.length - 1) f x i).length=x.length:=by
    intro f
    induction f with
    | zero=>intro i x;rfl
    | succ f ih =>
     intro i x
     rw [A19]
     split
     ·rfl
     ·split
      ·rfl
      ·rw [ih,N6]
   rw [key,N6])
 refine AL.Met.introH Tryz.func55 (by decide) rfl rfl rfl (fun hH=>?_)
 refine E2 (I91 741 (l:=[(0,.s E56)]) (L:=[(740,_),(741,_)]) ⟨le1 rfl,trivial⟩ hH (by repeat (first | exact B2 | refine B3 rfl ?_)) ⟨h0,h1,trivial⟩) ?_
 refine k2 (A2 (A6 V V (A4 ?_)));refine k1 (k2 (A2 (A3 V V (A47 (fun a vs w=>by kernel_rfl) (D99 g l V V) V V V V ?_))));rintro _ _ ⟨rfl,rfl⟩;refine A5 (K9 V V (by omega)) V (A6 V V (A4 ?_))
 rw [show ((l.length:Nat):Int) - 1=((l.length - 1:Nat):Int) by omega]
 refine k1 (k2 (A2 (A3 V V (A3 V V (A47 (fun a vs w=>by kernel_rfl) (C93 g l 0 (l.length - 1) h2 (by omega) V V) V V V V ?_)))));rintro _ _ ⟨rfl,rfl⟩;refine A4 ?_;refine k1 (k2 (A2 (A3 V V (A3 V V (L1 (I08 g (Z7 l 0 (l.length - 1)) (l.length - 1) (by omega) (by omega) hsr (by omega) V V) V V V ?_)))));rintro _ _ ⟨b,rfl,rfl⟩;refine A4 ?_
 rw [hdn]
 refine k1 (k2 (A2 (A3 V V (A47 (fun a vs w=>by kernel_rfl) ((by rw [←hpl];exact I62 g (C27 (S7 g) l) (by omega) (by omega) V V)) V V V V ?_))));rintro _ _ ⟨rfl,rfl⟩;refine A6 V V (A4 ?_)
 rw [hpl]
 refine k1 (k10 ?_)
 exact G5 (K6 rfl rfl) (by repeat (first | exact B2 | refine B3 rfl ?_ | refine J9 _ ?_ | refine D5 _ ?_)) (E5 (L:=[(740,_),(741,_)]) ⟨rfl,rfl,trivial⟩ (by repeat (first | exact D6 | refine D7 rfl ?_ | refine Q6 _ ?_))) ⟨rfl,rfl⟩
theorem OInv.ub {g:Graph} {inn:List Bool} {k i:Nat} {ch hp out:List Int} (h:OInv g inn k i ch hp out) (p:Nat) (hp:p < g.length):-1≤atG ch p∧atG ch p≤g.length:=by
 cases ho:K3 inn p
 ·have:=h.off p hp ho;omega
 ·have h1:=h.cnt p hp ho
  have h2:=F69 g inn (out.take k) p
  split at h1<;>omega
theorem I09 (g:Graph) (s:Int) (h:FewT g):FnOk Tryz.prog 29 [I1 g,I0 [s]] (fun rs=>rs=[I0 (M8 g s).1,E6 (M8 g s).2]):=by
 have hg:=h.few.len
 refine FnOk.intro Tryz.func29 (by decide) V V V V ?_
 refine k2 (A2 (A6 V V (A6 V V (A4 ?_))));refine k1 (k2 (k2 (A2 (A3 V V (C9 (H55 g h) V V V ?_)))));rintro _ rfl;refine A6 V V (A4 ?_);refine k1 (k2 (A2 (A3 V V (A5 (Q9 V V) V (A4 ?_)))));refine k1 ?_;refine B0 rfl (fun ht=>?_) (fun ht=>?_)
 ·have h1:J0 g≠0:=A0 ht
  refine k2 (A2 (A3 V V (A5 (G8 _ 1 E3) V (A6 V V (A4 ?_)))));refine k1 (k10 (k11 ?_))
  exact B6 (rs:=[I0 [],E6 (J0 g)]) (V5 rfl rfl rfl rfl rfl) (by unfold M8;rw [if_pos h1])
 have h1:¬J0 g≠0:=A1 ht
 have hvg:=Z5 (Decidable.not_not.1 h1)
 refine k5 (k1 (k2 (k2 (A2 (A3 V V (E1 V V (A3 V V (A4 ?_))))))));refine k1 (k3 (C5 (X:=Nat) (fun i=>([(0,C7 Commit 3 F6 g),(1,C7 Int 1 E3 [s]),(23,C7 Int 1 E3 [s]),(24,C0 1),(25,C0 i)],[])) (fun i=>i≤1∧(i=1→U9 g s)) (fun i=>1 - i) 0 ⟨Nat.zero_le _,fun h=>by cases h⟩ (I89 ⟨le1 rfl,le1 rfl,le1 rfl,le1 rfl,le1 rfl,trivial⟩ trivial) ?_))
 rintro i ⟨hi,hs⟩
 dsimp only at hi hs ⊢
 refine k2 (A2 (E7 V V V (A4 ?_)));refine k1 (k2 ?_);refine B0 rfl (fun ht=>?_) (fun ht=>?_)
 ·have hlt:i=0:=by have h1:=A0 ht;omega
  subst hlt
  have hv:[s][((0:Nat):Int).toNat]?=some s:=rfl
  refine k5 (k1 (k2 (k3 (k2 (A2 (A5 (A8 V (.pure _ _ _ _) V (by omega) hv) V (A5 (A7 V V) V (A6 V V (A4 ?_)))))))));refine k1 (k2 (A2 (A3 V V (A3 V V (C9 (dis_ok g s) V V V ?_)))));rintro _ rfl;refine A5 (R7 V) V (A4 ?_);refine k1 ?_;refine B0 rfl (fun ht=>?_) (fun ht=>?_)
  ·have h2:¬U9 g s:=by simpa using ht
   refine k2 (A2 (A5 (G8 _ 1 E3) V (A6 V V (A4 ?_))));refine k1 (k10 (k12 (k11 (k11 (k12 (k11 ?_))))))
   exact B6 (rs:=[I0 [],E6 5]) (V5 rfl rfl rfl rfl rfl) (by unfold M8;rw [if_neg h1,if_neg h2])
  ·have h2:U9 g s:=by simpa using ht
   refine k5 (k4 (k1 (A2 (D1 V V V (A3 V V (A4 ?_))))));refine k1 ?_
   exact ⟨1,⟨Nat.le_refl _,fun _=>h2⟩,by omega,(I89 ⟨le1 rfl,le1 rfl,le1 rfl,le1 rfl,le1 rfl,trivial⟩ trivial)⟩
 have hi1:i=1:=by have h1:=A1 ht;omega
 have hs:=hs hi1
 have hres:M8 g s=(B06 g [s],0):=by unfold M8;rw [if_neg h1,if_pos hs]
 rw [hres]
 have hsr:∀f∈[s],0≤f∧f < g.length:=fun f hf=>by rw [List.mem_singleton.1 hf];exact hs
 refine k6 (k2 (A2 (A3 V V (A6 V V (A4 ?_)))));refine k1 (k2 (A2 (A3 V V (A3 V V (B33 (F43 g [s] h.few hvg.rel hsr (by simp)) V V V V ?_)))));rintro _ _ ⟨ch,rfl,rfl,hchl,hch⟩;refine ⟨rfl,?_⟩;refine A6 V V (A4 ?_)
 have hcl:=A95 hvg.rel [s] hsr
 obtain ⟨inn,hinn⟩:∃inn,inn=N1 g [s]:=⟨_,rfl⟩
 have hil:inn.length=g.length:=by rw [hinn];exact B50 g _
 have hord:B06 g [s]=B85 g inn (g.length+1) []:=by rw [hinn];rfl
 rw [←hinn] at hch hcl
 rw [hord]
 have hlo:∀p,p < g.length → -1≤atG ch p∧atG ch p≤g.length:=fun p hp=>by
  rw [hch p hp]
  have:=F69 g inn [] p
  split<;>omega
 refine k1 (k2 (A2 (A3 V V (A5 (F87 (cs:=[.list Commit 3 F6 g]) V V) V (A5 (J3 V) V (C6 (x7 740 V V V) V (A6 V V (A4 ?_))))))));refine k1 (k2 (k2 (E2 (I95 741 Int 1 E3 3 (kb:=740) (o:=0) V V V) ?_)))
 refine A2 (A3 V V (A5 (C78 V V) V (A3 V V (A4 ?_))));refine k1 (k3 (C5 (X:=Nat × List Int) (fun x=>([(0,C7 Commit 3 F6 g),(10,.s (.one (.mut 753))),(11,.s (.one (.ref 740 0))),(42,.s (.one (.mut 753))),(43,C0 g.length),(44,C0 x.1)],[(740,A93 g),(741,T5 x.2),(753,D98 ch)])) (fun x=>x.1≤g.length∧HInv g ch x.2 x.1) (fun x=>g.length - x.1) (0,[]) ⟨Nat.zero_le _,HInv.nil g ch⟩ (by rw [←hchl];exact (I89 ⟨le1 rfl,le1 rfl,le1 rfl,le1 rfl,le1 rfl,le1 rfl,trivial⟩ ⟨rfl,rfl,rfl,trivial⟩)) ?_))
 rintro ⟨i,hp⟩ ⟨hi,hI⟩
 dsimp only at hi hI ⊢
 have hpl:=hI.le
 refine k2 (A2 (E7 V V V (A4 ?_)));refine k1 (k2 ?_);refine B0 rfl (fun ht=>?_) (fun ht=>?_)
 ·have hlt:i < g.length:=by have h1:=A0 ht;(try dsimp only at h1);omega
  have hva:=C12 (l:=ch) (p:=(i:Int)) (by omega)
  rw [J16] at hva
  have hN:=hI.step
  have hrg:∀x∈hp,0≤x∧x < (g.length:Int):=fun x hx=>by have:=hI.rng x hx;omega
  refine k5 (k1 (k2 (k3 (k2 (A2 (A3 V V (A5 (F3 V V V (by omega) (by omega)) V (A5 (M2 V V hva V) V (A6 V V (A6 V V (A4 ?_)))))))))));refine k1 (k2 (A2 (A3 V V (A5 (F8 V V) V (A4 ?_)))));refine k1 ?_;refine B0 rfl (fun ht=>?_) (fun ht=>?_)
  ·have h2:atG ch i=0:=A0 ht
   rw [if_pos h2] at hN
   skip
   refine A2 (A3 V V (A5 (A89 V (by kernel_rfl)) V (A3 V V (A5 (C09 V (by kernel_rfl)) V (L1 (E93 g hp i hg (by omega) hrg (by omega) V V) V V V ?_)))));rintro _ _ ⟨rfl,rfl⟩;refine A4 ?_;refine k4 (k1 (A2 (D1 V V V (A3 V V (A4 ?_)))));refine k1 ?_
   exact ⟨(i+1,C71 (S7 g) hp i),⟨hlt,hN⟩,by dsimp only;omega,(I89 ⟨le1 rfl,le1 rfl,le1 rfl,le1 rfl,le1 rfl,le1 rfl,trivial⟩ ⟨rfl,rfl,rfl,trivial⟩)⟩
  ·have h2:¬atG ch i=0:=A1 ht
   rw [if_neg h2] at hN
   refine k5 (k4 (k1 (A2 (D1 V V V (A3 V V (A4 ?_))))));refine k1 ?_
   exact ⟨(i+1,hp),⟨hlt,hN⟩,by dsimp only;omega,(I89 ⟨le1 rfl,le1 rfl,le1 rfl,le1 rfl,le1 rfl,le1 rfl,trivial⟩ ⟨rfl,rfl,rfl,trivial⟩)⟩
 have hie:i=g.length:=by have h1:=A1 ht;(try dsimp only at h1);omega
 rw [hie] at hI
 have hO:=OInv.start hchl hil hch hI
 refine k6 (k2 (A2 (C6 (N0 14 _ E3 V) V (A4 ?_))));refine k1 (k2 (k3 (C5 (X:=List Int × List Int × List Int) (fun x=>([(0,C7 Commit 3 F6 g),(10,.s (.one (.mut 753))),(11,.s (.one (.ref 740 0))),(14,.s (.one (.buf 14 Int 1 E3 x.2.2)))],[(14,.spare x.2.2.length 1 3),(740,A93 g),(741,T5 x.2.1),(753,D98 x.1)])) (fun x=>OInv g inn x.2.2.length 0 x.1 x.2.1 x.2.2∧B85 g inn (g.length+1 - x.2.2.length) x.2.2=B85 g inn (g.length+1) []) (fun x=>g.length+1 - x.2.2.length) (ch,hp,[]) ⟨hO,rfl⟩ (I89 ⟨le1 rfl,le1 rfl,le1 rfl,le1 rfl,trivial⟩ ⟨rfl,rfl,rfl,rfl,trivial⟩) ?_)))
 rintro ⟨ch,hp,out⟩ ⟨hO,hro⟩
 dsimp only at hO hro ⊢
 obtain ⟨hol,hpl⟩:=hO.le
 have hchl:=hO.len
 refine k2 (k2 (A2 (A3 V V (L1 (D99 g hp V V) V V V ?_))));rintro _ _ ⟨rfl,rfl⟩;refine A5 (L7 V V) V (A4 ?_);refine k1 ?_;refine B0 rfl (fun ht=>?_) (fun ht=>?_)
 rotate_left
 ·have h2:hp=[]:=by
   have h2:=A1 ht
   exact List.length_eq_zero_iff.1 (by omega)
  rw [h2] at hO
  have hb:=hO.fin
  rw [G48 (by omega)] at hro
  rw [←hro]
  refine k6 (k2 (A2 (A3 V V (A6 V V (A6 V V (A4 ?_))))));refine k1 (k10 ?_)
  exact B6 (rs:=[I0 out,E6 0]) (V5 rfl rfl rfl rfl rfl) rfl
 have hp0:0 < hp.length:=by have h2:=A0 ht;omega
 obtain ⟨b1,b2,b3⟩:=hO.pop hp0
 have hm:atG hp 0∈hp:=by rw [P2 hp0];exact J18 hp0
 have hr0:=hO.hpr _ hm
 obtain ⟨c,hc⟩:∃c:Nat,atG hp 0=(c:Int):=⟨(atG hp 0).toNat,by omega⟩
 rw [F10 (by omega) (by omega),b1,hc] at hro
 rw [hc] at b2 b3
 have hcg:c < g.length:=by omega
 obtain ⟨cm,hcm⟩:∃cm,cm=g[c]:=⟨_,rfl⟩
 have hvc:g[((c:Nat):Int).toNat]?=some cm:=by rw [hcm];simp [hcg]
 have hps:E9 g c=cm.Parents:=by rw [V9 hcg,hcm]
 have hpl2:=h.few.pars cm (by rw [hcm];exact J18 hcg)
 obtain ⟨hp1,hhp1⟩:∃hp1,hp1=(C27 (S7 g) hp).take (hp.length - 1):=⟨_,rfl⟩
 refine k5 (k1 (k3 (k2 (A2 (A3 V V (A5 (A89 V (by kernel_rfl)) V (L1 (I63 g hp hg (by omega) hp0 hO.hpr V V) V V V ?_)))))));rintro _ _ ⟨rfl,rfl⟩;refine A5 (D12 V V) V (A6 V V (A4 ?_))
 rw [b3,←hhp1]
 rw [←hhp1] at b2
 refine k1 (k2 (A2 (A3 V V (A3 V V (A5 (C1 (c:=E3) (ys:=[(c:Int)]) (D2 V V V V F1) V V V) V (C6 (G9 V V V (.pure _ _ _ _) (by (simp only [J17,J21];omega)) V) V (A6 V V (A4 ?_))))))));refine k1 (k2 (A2 (A3 V V (A3 V V (A5 (A8 V (.pure _ _ _ _) V (by omega) hvc) V (A5 (B8 V) V (A5 (A7 V V) V (E1 V V (A3 V V (A4 ?_))))))))));refine k1 (k3 (C5 (X:=Nat × List Int × List Int) (fun x=>([(0,C7 Commit 3 F6 g),(10,.s (.one (.mut 753))),(11,.s (.one (.ref 740 0))),(14,.s (.one (.buf 14 Int 1 E3 (out++[(c:Int)])))),(72,C7 Int 1 E3 cm.Parents),(73,C0 cm.Parents.length),(74,C0 x.1)],[(14,.spare (out++[(c:Int)]).length 1 3),(740,A93 g),(741,T5 x.2.2),(753,D98 x.2.1)])) (fun x=>x.1≤cm.Parents.length∧OInv g inn out.length x.1 x.2.1 x.2.2 (out++[(c:Int)])) (fun x=>cm.Parents.length - x.1) (0,ch,hp1) ⟨Nat.zero_le _,b2⟩ (I89 ⟨le1 rfl,le1 rfl,le1 rfl,le1 rfl,le1 rfl,le1 rfl,le1 rfl,trivial⟩ ⟨rfl,rfl,rfl,rfl,trivial⟩) ?_))
 rintro ⟨i,ch,hp⟩ ⟨hi,hO⟩
 dsimp only at hi hO ⊢
 obtain ⟨hol2,hpl⟩:=hO.le
 have hchl:=hO.len
 have hub:=OInv.ub hO
 have hvo:(out++[(c:Int)])[out.length]?=some (c:Int):=by rw [J30 (Nat.le_refl _),J62];rfl
 rw [J19,List.length_singleton] at hol2
 refine k2 (A2 (E7 V V V (A4 ?_)));refine k1 (k2 ?_);refine B0 rfl (fun ht=>?_) (fun ht=>?_)
 rotate_left
 ·have h2:i=cm.Parents.length:=by have h1:=A1 ht;(try dsimp only at h1);omega
  rw [h2,←hps] at hO
  have hN:=hO.next (by simp) hvo
  refine k6 (k7 (k7 (k8 V (k4 (k1 ?_)))));refine ⟨(ch,hp,out++[(c:Int)]),⟨hN,?_⟩,by dsimp only;rw [J19,List.length_singleton];omega,(I89 ⟨le1 rfl,le1 rfl,le1 rfl,le1 rfl,trivial⟩ ⟨rfl,rfl,rfl,rfl,trivial⟩)⟩
  dsimp only
  rw [←hro,J19,List.length_singleton]
  congr 1<;>omega
 have hilt:i < cm.Parents.length:=by have h1:=A0 ht;(try dsimp only at h1);omega
 have hpb:=(J4 hvg.rel c).1 cm.Parents[i] (by rw [hps];exact J18 hilt)
 obtain ⟨p,hpe⟩:∃p:Nat,cm.Parents[i]=(p:Int):=⟨cm.Parents[i].toNat,by omega⟩
 have hvp:cm.Parents[i]?=some (p:Int):=by rw [J14 hilt,hpe]
 obtain ⟨s1,s2,s3,s4,s5⟩:=hO.step hvg.rel hcl (by simp) hvo (i:=i) (p:=p) (by rw [hps];exact hilt) (by simp only [hps];exact hpe)
 have hva:=C12 (l:=ch) (p:=(p:Int)) (by omega)
 have hva2:(W8 ch p)[((p:Nat):Int).toNat]?=some (atG ch p - 1):=by
  unfold W8
  rw [J16,List.getElem?_set_self (by omega)]
 have hdl:(W8 ch p).length=g.length:=by unfold W8;rw [J39,hchl]
 have hset:ch.set ((p:Nat):Int).toNat (atG ch ((p:Nat):Int).toNat - 1)=W8 ch p:=rfl
 refine k5 (k1 (k2 (k3 (k2 (A2 (A5 (A8 V (.pure _ _ _ _) V (by omega) hvp) V (A5 (A7 V V) V (A6 V V (A4 ?_)))))))));refine k1 (k2 (A2 (A3 V V (A3 V V (A5 (F3 V V V (by omega) (by (rw [hchl];omega))) V ?_)))));refine A5 (M2 V V hva V) V (A5 (K9 V V (by (rw [J16];omega))) V ?_);refine A5 (F3 V V V (by omega) (by (rw [hchl];omega))) V ?_;refine H1 (I4 TySz.out V V (by (rw [hchl];omega)) V V) ?_;refine A4 ?_
 rw [hset]
 refine k1 (k2 (A2 (A3 V V (A3 V V (A5 (F3 V V V (by omega) (by (rw [hdl];omega))) V ?_)))));refine A5 (M2 V V hva2 V) V (A5 (F8 V V) V (A4 ?_));refine k1 ?_;refine B0 rfl (fun ht=>?_) (fun ht=>?_)
 ·have h2:atG ch p - 1=0:=A0 ht
  rw [if_pos h2] at s5
  skip
  refine A2 (A3 V V (A5 (A89 V (by kernel_rfl)) V (A3 V V (A5 (C09 V (by kernel_rfl)) V (L1 (E93 g hp p hg (by omega) hO.hpr (by omega) V V) V V V ?_)))));rintro _ _ ⟨rfl,rfl⟩;refine A4 ?_;refine k4 (k1 (A2 (D1 V V V (A3 V V (A4 ?_)))));refine k1 ?_
  exact ⟨(i+1,W8 ch p,C71 (S7 g) hp p),⟨hilt,s5⟩,by dsimp only;omega,(I89 ⟨le1 rfl,le1 rfl,le1 rfl,le1 rfl,le1 rfl,le1 rfl,le1 rfl,trivial⟩ ⟨rfl,rfl,rfl,rfl,trivial⟩)⟩
 ·have h2:¬atG ch p - 1=0:=A1 ht
  rw [if_neg h2] at s5
  refine k5 (k4 (k1 (A2 (D1 V V V (A3 V V (A4 ?_))))));refine k1 ?_
  exact ⟨(i+1,W8 ch p,hp),⟨hilt,s5⟩,by dsimp only;omega,(I89 ⟨le1 rfl,le1 rfl,le1 rfl,le1 rfl,le1 rfl,le1 rfl,le1 rfl,trivial⟩ ⟨rfl,rfl,rfl,rfl,trivial⟩)⟩
set_option maxHeartbeats 1000000
abbrev isS (l:List Int):S1:=.one (.p (.list Int 1 E3 l))
theorem I64 (f:Str × Str→Bool) (g:Graph) (c:Nat):(K5 g c).flatten.any f=P3 f g c:=by
 unfold P3
 rw [List.any_flatten]
theorem D22 (g:Graph) (s:Int) (f:FuncId) (α:Type) (ec:Nat) (cc:α→Nat→Cell) (v:α) (pr:Str × Str→Bool) (h:FewT g) (hs6:Short g)
  (hf:Valid g→∀c:Nat,c < g.length→∀x∈(K5 g c).flatten,AL.Met Tryz.prog f [G17 x,.one (.eref α ec cc v 0)] [] [] [] (fun rs ob'=>rs=[B13 (pr x)]∧ob'=[])) :
  AL.Met Tryz.prog 17 [.one (.p (.list Commit 3 F6 g)),N2 s,.one (.fncE f α ec cc v)] [] [] [] (fun rs ob'=>rs=[isS (T3 pr g s).1,N2 (T3 pr g s).2]∧ob'=[]):=by
 refine AL.Met.intro Tryz.func17 (by decide) V V V ?_
 refine k2 (A2 (A6 V V (A6 V V (A4 ?_))));refine k1 (k2 (A2 (A3 V V (A3 V V (A5 (C1 (c:=E3) (ys:=[s]) (D2 V V V V F1) V V V) V (C9 (I09 g s h) V V V ?_))))));rintro _ rfl;refine A3 V V (H0 V V V (H0 V V V (A6 V V (A6 V V (A4 ?_)))));refine k1 (k2 (k2 (A2 (A3 V V (A5 (Q9 V V) V (A4 ?_))))));refine k1 ?_;refine B0 rfl (fun ht=>?_) (fun ht=>?_)
 ·have h3:(M8 g s).2≠0:=A0 ht
  refine k2 (A2 (A3 V V (A5 (G8 _ 1 E3) V (A6 V V (A4 ?_)))));refine k1 (k10 (k11 ?_))
  exact G5 (RetOk.s2 (V5 rfl rfl rfl rfl rfl)) (by repeat (first | exact B2 | refine B3 rfl ?_ | refine D5 _ ?_)) (ObIn.spec (ob':=[]) trivial) ⟨by unfold T3;rw [if_pos h3],rfl⟩
 have h3:¬(M8 g s).2≠0:=A1 ht
 obtain ⟨hv,hrg,hnd⟩:Valid g∧(∀x∈(M8 g s).1,0≤x∧x < (g.length:Int))∧(M8 g s).1.Nodup:=by
  unfold M8 at h3 ⊢
  split at h3
  ·rename_i hd;exact absurd hd h3
  ·rename_i hd
   rw [if_neg hd]
   have:=Z5 (Decidable.not_not.1 hd)
   split
   ·exact ⟨this,(l7 g [s]).2,(l7 g [s]).1⟩
   ·exact ⟨this,(fun _ h=>by cases h),List.nodup_nil⟩
 have hres2:T3 pr g s=((M8 g s).1.filter fun c=>P3 pr g c.toNat,0):=by unfold T3;rw [if_neg h3]
 rw [hres2]
 obtain ⟨O,hO⟩:∃O,O=(M8 g s).1:=⟨_,rfl⟩
 rw [←hO] at hrg hnd ⊢
 have hOl:=X9 hnd hrg
 have hg:=h.few.len
 refine k5 (k1 (k2 (A2 (C6 (N0 10 _ E3 V) V (A4 ?_)))));refine k1 (k2 (k2 (A2 (A3 V V (E1 V V (A3 V V (A4 ?_)))))));refine k1 (k3 (C5 (X:=Nat) (fun k=>([(0,C7 Commit 3 F6 g),(2,.s (.one (.fncE f α ec cc v))),(10,.s (.one (.buf 10 Int 1 E3 ((O.take k).filter fun c=>P3 pr g c.toNat)))),(23,C7 Int 1 E3 O),(24,C0 O.length),(25,C0 k)],[(10,.spare ((O.take k).filter fun c=>P3 pr g c.toNat).length 1 3)])) (fun k=>k≤O.length) (fun k=>O.length - k) 0 (Nat.zero_le _) (I89 ⟨le1 rfl,le1 rfl,le1 rfl,le1 rfl,le1 rfl,le1 rfl,trivial⟩ ⟨rfl,trivial⟩) ?_))
 intro k hk
 dsimp only at hk ⊢
 have hfl:=List.length_filter_le (fun c:Int=>P3 pr g c.toNat) (O.take k)
 rw [J24] at hfl
 refine k2 (A2 (E7 V V V (A4 ?_)));refine k1 (k2 ?_);refine B0 rfl (fun ht=>?_) (fun ht=>?_)
 rotate_left
 ·have hke:k=O.length:=by have h1:=A1 ht;(try dsimp only at h1);omega
  rw [hke,J22]
  refine k6 (k2 (A2 (A3 V V (A6 V V (A6 V V (A4 ?_))))));refine k1 (k10 ?_)
  exact G5 (RetOk.s2 (V5 rfl rfl rfl rfl rfl)) (by repeat (first | exact B2 | refine B3 rfl ?_ | refine D5 _ ?_)) (ObIn.spec (ob':=[]) trivial) ⟨rfl,rfl⟩
 have hklt:k < O.length:=by have h1:=A0 ht;(try dsimp only at h1);omega
 have hcr:=hrg _ (J18 hklt)
 obtain ⟨c,hc⟩:∃c:Nat,O[k]=(c:Int):=⟨O[k].toNat,by omega⟩
 have hvk:O[k]?=some (c:Int):=by rw [J14 hklt,hc]
 have hsn:(O.take (k+1)).filter (fun c=>P3 pr g c.toNat)=((O.take k).filter fun c=>P3 pr g c.toNat)++(if P3 pr g c=true then [(c:Int)] else []):=by
  rw [List.take_add_one,hvk,Option.toList_some,J67]
  congr 1
  rw [J65,J16];rfl
 obtain ⟨F,hF⟩:∃F,F=(O.take k).filter fun c=>P3 pr g c.toNat:=⟨_,rfl⟩
 rw [←hF] at hfl hsn ⊢
 have hB:=A73 h hv c
 have hfl2:=A92 hB (K5 g c).length
 unfold n5 at hfl2
 rw [J22] at hfl2
 have hfx:=hf hv c (by omega)
 have hap:=I64 pr g c
 refine k5 (k1 (k2 (k3 (k2 (A2 (A5 (A8 V (.pure _ _ _ _) V (by omega) hvk) V (A5 (A7 V V) V (A6 V V (A4 ?_)))))))));refine k1 (k2 (A2 (A3 V V (A3 V V (C9 (E90 g c h hv hs6 (by omega)) V V V ?_)))));rintro _ rfl;refine C9 (E55 (K5 g c) hB) V V V ?_;rintro _ rfl;refine A3 V V (B33 (C91 f α ec cc v pr (K5 g c).flatten (by omega) hfx) V V V V ?_);rintro _ _ ⟨rfl,rfl⟩;refine ⟨rfl,?_⟩;refine A4 ?_
 rw [hap]
 refine k1 ?_;refine B0 rfl (fun ht=>?_) (fun ht=>?_)
 ·rw [if_pos ht] at hsn
  skip
  refine A2 (A3 V V (A3 V V (A5 (C1 (c:=E3) (ys:=[(c:Int)]) (D2 V V V V F1) V V V) V (C6 (G9 V V V (.pure _ _ _ _) (by (simp only [J17,J21];omega)) V) V (A6 V V (A4 ?_))))));refine k4 (k1 (A2 (D1 V V V (A3 V V (A4 ?_)))));refine k1 ?_;refine ⟨k+1,by omega,by omega,?_⟩
  rw [hsn]
  exact (I89 ⟨le1 rfl,le1 rfl,le1 rfl,le1 rfl,le1 rfl,le1 rfl,trivial⟩ ⟨rfl,trivial⟩)
 ·rw [ht,if_neg (by decide),J43] at hsn
  refine k5 (k4 (k1 (A2 (D1 V V V (A3 V V (A4 ?_))))));refine k1 ?_;refine ⟨k+1,by omega,by omega,?_⟩
  rw [hsn]
  exact (I89 ⟨le1 rfl,le1 rfl,le1 rfl,le1 rfl,le1 rfl,le1 rfl,trivial⟩ ⟨rfl,trivial⟩)
theorem D23 (g:Graph) (s:Int) (nd:Str) (h:FewT g) (hs6:Short g) (hn:nd.length≤1073741824):FnOk Tryz.prog 7 [I1 g,E6 s,L2 nd] (fun rs=>rs=[I0 (O8 g s nd).1,E6 (O8 g s nd).2]):=by
 refine FnOk.intro Tryz.func7 (by decide) V V V V ?_
 refine k2 (A2 (A5 (n_boxE V V) V (A5 (G8 _ 1 E3) V (A6 V V (A4 ?_)))));refine k1 (k2 (k3 (k2 (A2 (A5 (A7 V V) V (A5 (g9 V V) V (A6 V V (A4 ?_))))))));refine k1 ?_;refine B0 rfl (fun ht=>?_) (fun ht=>?_)
 ·have h1:nd=[]:=A0 ht
  refine k2 (A2 (A5 (G8 _ 1 E3) V (A6 V V (A4 ?_))));refine k1 (k10 (k12 (k11 ?_)))
  exact B6 (rs:=[I0 [],E6 2]) (V5 rfl rfl rfl rfl rfl) (by unfold O8;rw [if_pos h1])
 have h1:¬nd=[]:=A1 ht
 refine k2 (A2 (A5 (A7 V V) V (A5 (J2 V) V (A5 (L7 V V) V (A6 V V (A4 ?_))))));refine k1 ?_;refine B0 rfl (fun ht=>?_) (fun ht=>?_)
 ·have h2:(256:Int) < nd.length:=A0 ht
  refine k2 (A2 (A5 (G8 _ 1 E3) V (A6 V V (A4 ?_))));refine k1 (k10 (k12 (k11 ?_)))
  exact B6 (rs:=[I0 [],E6 1]) (V5 rfl rfl rfl rfl rfl) (by unfold O8;rw [if_neg h1,if_pos (by omega)])
 have h2:¬(256:Int) < nd.length:=A1 ht
 have hres:O8 g s nd=T3 (differs nd) g s:=by unfold O8;rw [if_neg h1,if_neg (by omega)]
 rw [hres]
 refine k5 (k2 (A2 (A3 V V (A3 V V (A5 (D13 V) V ?_)))))
 refine B33 (D22 g s 18 Unit 1 (cE nd) () (differs nd) h hs6 (fun hv c hc x hx=>by
  obtain ⟨l,hl,hxl⟩:=List.mem_flatten.1 hx
  have hb:=(A73 h hv c).strs l hl x hxl
  exact I61 nd x hn hb.1 hb.2)) rfl rfl rfl rfl ?_
 rintro _ _ ⟨rfl,rfl⟩;refine ⟨rfl,?_⟩;refine H0 V V V (H0 V V V (A6 V V (A6 V V (A4 ?_))))
 refine k1 (k10 ?_)
 exact B6 (rs:=[I0 (T3 (differs nd) g s).1,E6 (T3 (differs nd) g s).2]) (V5 rfl rfl rfl rfl rfl) rfl
theorem E01 (g:Graph) (c:Int) (nd:Str) (h:FewT g) (hs6:Short g) (hn:nd.length≤1073741824):FnOk Tryz.prog 9 [I1 g,E6 c,L2 nd] (fun rs=>rs=[I0 (O7 g c nd).1,E6 (O7 g c nd).2]):=by
 refine FnOk.intro Tryz.func9 (by decide) V V V V ?_
 refine k2 (A2 (A6 V V (A6 V V (A4 ?_))));refine k1 (k2 (k2 (A2 (A3 V V (A3 V V (C9 (I05 g c h hs6) V V V ?_))))));rintro _ ⟨_,rfl⟩;refine A3 V V (H0 V V V (H0 V V V (A6 V V (A6 V V (A4 ?_)))));refine k1 (k2 (A2 (A3 V V (A5 (Q9 V V) V (A4 ?_)))));refine k1 ?_;refine B0 rfl (fun ht=>?_) (fun ht=>?_)
 ·have h1:T6 g c≠0:=A0 ht
  refine k2 (A2 (A3 V V (A5 (G8 _ 1 E3) V (A6 V V (A4 ?_)))));refine k1 (k10 (k11 ?_))
  exact B6 (rs:=[I0 [],E6 (T6 g c)]) (V5 rfl rfl rfl rfl rfl) (by unfold O7;rw [if_pos h1])
 have h1:¬T6 g c≠0:=A1 ht
 obtain ⟨hv,hc0,hc1⟩:=A33 (Decidable.not_not.1 h1)
 obtain ⟨k,rfl⟩:∃k:Nat,c=(k:Int):=⟨c.toNat,by omega⟩
 have hres:O7 g (k:Int) nd=((K5 g k).map (S2 nd),0):=by unfold O7;rw [if_neg h1,J16]
 rw [hres]
 have hB:=A73 h hv k
 refine k5 (k1 (k2 (A2 (C6 (N0 10 _ E3 V) V (A4 ?_)))));refine k1 (k2 (k2 (A2 (A3 V V (A3 V V (C9 (E90 g k h hv hs6 (by omega)) V V V ?_))))));rintro _ rfl;refine E1 V V (A3 V V (A4 ?_))
 obtain ⟨B,hBd⟩:∃B,B=K5 g k:=⟨_,rfl⟩
 rw [←hBd] at hB ⊢
 have hBl:=hB.len
 refine k1 (k3 (C5 (X:=Nat) (fun p=>([(2,S3 nd),(10,.s (.one (.buf 10 Int 1 E3 ((B.take p).map (S2 nd))))),(27,C7 (List (Str × Str)) 1 Y5 B),(28,C0 B.length),(29,C0 p)],[(10,.spare ((B.take p).map (S2 nd)).length 1 3)])) (fun p=>p≤B.length) (fun p=>B.length - p) 0 (Nat.zero_le _) (I89 ⟨le1 rfl,le1 rfl,le1 rfl,le1 rfl,le1 rfl,trivial⟩ ⟨rfl,trivial⟩) ?_))
 intro p hp
 dsimp only at hp ⊢
 have hml:((B.take p).map (S2 nd)).length≤33:=by rw [J32,J24];omega
 refine k2 (A2 (E7 V V V (A4 ?_)));refine k1 (k2 ?_);refine B0 rfl (fun ht=>?_) (fun ht=>?_)
 rotate_left
 ·have hpe:p=B.length:=by have h1:=A1 ht;(try dsimp only at h1);omega
  rw [hpe,J22]
  refine k6 (k2 (A2 (A3 V V (A6 V V (A6 V V (A4 ?_))))));refine k1 (k10 ?_)
  exact B6 (rs:=[I0 (B.map (S2 nd)),E6 0]) (V5 rfl rfl rfl rfl rfl) rfl
 have hplt:p < B.length:=by have h1:=A0 ht;(try dsimp only at h1);omega
 have hs:=D19 (nd:=nd) hplt
 obtain ⟨l,hl⟩:∃l,l=B[p]:=⟨_,rfl⟩
 have hvl:B[p]?=some l:=by rw [hl];simp [hplt]
 have hlm:l∈B:=by rw [hl];exact J18 hplt
 have hll:=hB.lens l hlm
 rw [←hl] at hs
 obtain ⟨S,hS⟩:∃S,S=(B.take p).map (S2 nd):=⟨_,rfl⟩
 rw [←hS] at hs hml ⊢
 refine k5 (k1 (k2 (k3 (k2 (A2 (A5 (A8 V (.pure _ _ _ _) V (by omega) hvl) V (A5 (A7 V V) V (A6 V V (A4 ?_)))))))));refine k1 (k2 (A2 (A6 V V (A4 ?_))));refine k1 (k2 (k2 (A2 (A3 V V (E1 V V (A3 V V (A4 ?_)))))));refine k1 (k3 (C5 (X:=Nat) (fun i=>([(2,S3 nd),(10,.s (.one (.buf 10 Int 1 E3 S))),(13,C0 (S2 nd (l.take i))),(27,C7 (List (Str × Str)) 1 Y5 B),(28,C0 B.length),(29,C0 p),(33,C7 (Str × Str) 2 o9 l),(34,C0 l.length),(35,C0 i)],[(10,.spare S.length 1 3)])) (fun i=>i≤l.length) (fun i=>l.length - i) 0 (Nat.zero_le _) (I89 ⟨le1 rfl,le1 rfl,le1 rfl,le1 rfl,le1 rfl,le1 rfl,le1 rfl,le1 rfl,le1 rfl,trivial⟩ ⟨rfl,trivial⟩) ?_))
 intro i hi
 dsimp only at hi ⊢
 refine k2 (A2 (E7 V V V (A4 ?_)));refine k1 (k2 ?_);refine B0 rfl (fun ht=>?_) (fun ht=>?_)
 ·have hilt:i < l.length:=by have h1:=A0 ht;(try dsimp only at h1);omega
  have hs2:=G16 (nd:=nd) hilt
  obtain ⟨x,hx⟩:∃x,x=l[i]:=⟨_,rfl⟩
  have hvx:l[i]?=some x:=by rw [hx];simp [hilt]
  have hxs:=hB.strs l hlm x (by rw [hx];exact J18 hilt)
  rw [←hx] at hs2
  have hsb:=C17 (nd:=nd) (l:=l.take i) fun y hy=>hB.strs l hlm y (List.mem_of_mem_take hy)
  rw [J24] at hsb
  have hc1:=A74 nd x.1 hxs.1
  have hc2:=A74 nd x.2 hxs.2
  obtain ⟨s0,hs0⟩:∃s0,s0=S2 nd (l.take i):=⟨_,rfl⟩
  obtain ⟨u1,hu1⟩:∃u1,u1=U8 nd x.1:=⟨_,rfl⟩
  obtain ⟨u2,hu2⟩:∃u2,u2=U8 nd x.2:=⟨_,rfl⟩
  have hmin:min i l.length≤400:=by omega
  have hsb1:-6710887200≤s0∧s0≤6710887200:=by rw [hs0];omega
  rw [←hu1] at hc1
  rw [←hu2] at hc2
  rw [←hs0,←hu1,←hu2] at hs2
  rw [←hs0]
  clear hsb
  have hr1:=B68 nd x.1 hn hxs.1
  have hr2:=B68 nd x.2 hn hxs.2
  rw [←hu1] at hr1
  rw [←hu2] at hr2
  refine k5 (k1 (k2 (k3 (k2 (A2 (A5 (A8 V (.pure _ _ _ _) V (by omega) hvx) V (A5 (E0 V V) V (C6 (J6 15 V) V (H1 (C2 TySz.out V V V V V V) (A4 ?_))))))))));refine k1 (D9 (by kernel_rfl) (by kernel_rfl) (D8 V V (D8 V V (B5 (K8 V V (by first | omega | decide) (by omega)) V V (B5 (C4 V V V) V V (B5 (L0 (hr2) V V) V V (D8 V V (B5 (K8 V V (by first | omega | decide) (by omega)) V V (B5 (C4 V V V) V V (B5 (L0 (hr1) V V) V V (B5 (K9 V V (by omega)) V V (B5 (b8 V V (by omega)) V V (B5 (H5 V V) V V (N3 ?_))))))))))))));refine k4 (k1 (A2 (D1 V V V (A3 V V (A4 ?_)))));refine k1 ?_;refine ⟨i+1,by omega,by omega,?_⟩
  rw [hs2]
  exact (I89 ⟨le1 rfl,le1 rfl,le1 rfl,le1 rfl,le1 rfl,le1 rfl,le1 rfl,le1 rfl,le1 rfl,trivial⟩ ⟨rfl,trivial⟩)
 ·have hie:i=l.length:=by have h1:=A1 ht;(try dsimp only at h1);omega
  rw [hie,J22]
  refine k6 (k7 (k7 (k8 V (k1 (A2 (A3 V V (A3 V V (A5 (C1 (c:=E3) (ys:=[S2 nd l]) (D2 V V V V F1) V V V) V (C6 (G9 V V V (.pure _ _ _ _) (by (simp only [J17,J21];omega)) V) V (A6 V V (A4 ?_)))))))))));refine k4 (k1 (A2 (D1 V V V (A3 V V (A4 ?_)))));refine k1 ?_;refine ⟨p+1,by omega,by omega,?_⟩
  rw [hs]
  exact (I89 ⟨le1 rfl,le1 rfl,le1 rfl,le1 rfl,le1 rfl,trivial⟩ ⟨rfl,trivial⟩)
set_option maxHeartbeats 1000000
structure GF (B:Nat) (l:List File):Prop where
 len:l.length≤4
 all:∀f∈l,f.Path.length≤3∧f.Blob.length≤B
theorem GF.few {B:Nat} {l:List File} (h:GF B l) (hB:B≤16777216):FewF l :=
 ⟨by have:=h.len;omega,fun f hf=>by have:=(h.all f hf).1;omega,fun f hf=>by have:=(h.all f hf).2;omega⟩
theorem GF.mono {B B':Nat} {l:List File} (h:GF B l) (hB:B≤B'):GF B' l:=⟨h.len,fun f hf=>⟨(h.all f hf).1,by have:=(h.all f hf).2;omega⟩⟩
abbrev G90:List Str:=[[97],[98,47,120],[98,47,121],[99,32,100]]
theorem name4 (i:Nat) (h:i < 4):∃nm:Str,G90[((i:Nat):Int).toNat]?=some nm∧nm.length≤3:=by
 rw [J16]
 match i,h with
 | 0,_=>exact ⟨_,rfl,by decide⟩
 | 1,_=>exact ⟨_,rfl,by decide⟩
 | 2,_=>exact ⟨_,rfl,by decide⟩
 | 3,_=>exact ⟨_,rfl,by decide⟩
theorem G91 (blob:Str) (raw:List Int) (k:Int):(C14 blob raw k).length≤5*blob.length:=by
 have h1:=A91 raw k (K7 blob) 0 []
 have h2:=B47 blob
 rw [B12] at h1
 unfold C14
 simp only [J21] at h1
 omega
theorem E94 (raw:List Int) (k lines:Int) (h0:0≤k∧k≤1000000) (h1:0≤lines∧lines≤16):FnOk Tryz.prog 14 [I0 raw,E6 k,E6 lines] (fun rs=>∃l,rs=[O3 l]∧GF 64 l):=by
 refine FnOk.intro Tryz.func14 (by decide) V V V V ?_
 refine k2 (A2 (A6 V V (A4 ?_)));refine k1 (k2 (A2 (A5 (C1 (c:=P9) (ys:=G90) (D2 V V V V (D2 V V V V (D2 V V V V (D2 V V V V F1)))) V V V) V (A6 V V (A4 ?_)))));refine k1 (k2 (A2 (C6 (N0 8 _ Q4 V) V (A4 ?_))));refine k1 (k2 (k2 (A2 (A6 V V (A4 ?_)))));refine k1 (k3 (C5 (X:=Nat × List File) (fun x=>([(0,C7 Int 1 E3 raw),(1,C0 k),(2,C0 lines),(7,C7 Str 1 P9 G90),(8,.s (.one (.buf 8 File 2 Q4 x.2))),(9,C0 x.1)],[(8,.spare x.2.length 2 55)])) (fun x=>x.1≤4∧x.2.length≤x.1∧∀f∈x.2,f.Path.length≤3∧f.Blob.length≤64) (fun x=>4 - x.1) (0,[]) ⟨Nat.zero_le _,Nat.le_refl _,fun _ h=>by cases h⟩ (I89 ⟨le1 rfl,le1 rfl,le1 rfl,le1 rfl,le1 rfl,le1 rfl,trivial⟩ ⟨rfl,trivial⟩) ?_))
 rintro ⟨i,out⟩ ⟨hi,hol,hall⟩
 dsimp only at hi hol hall ⊢
 refine k2 (k2 (A2 (A3 V V (E7 V V V (A4 ?_)))));refine k1 ?_;refine B0 rfl (fun ht=>?_) (fun ht=>?_)
 rotate_left
 ·refine k6 (k2 (A2 (A3 V V (A6 V V (A4 ?_)))));refine k1 (k10 ?_)
  exact B6 (rs:=[O3 out]) (G7 rfl rfl rfl) ⟨out,rfl,by omega,hall⟩
 have hlt:i < 4:=by have h1:=A0 ht;(try dsimp only at h1);omega
 obtain ⟨nm,hnm,hnl⟩:=name4 i hlt
 refine k5 (k1 (k2 (k3 (k2 (A2 (A3 V V (A3 V V (A3 V V (D1 V V V (C9 (A14 raw (k+(i:Int)) (by omega) (by omega)) V V V ?_))))))))));rintro _ rfl;refine A5 (A64 V V (by omega)) V (A5 (L7 V V) V (A4 ?_));refine k1 ?_;refine B0 rfl (fun ht=>?_) (fun ht=>?_)
 ·have hbl:=G70 raw (k+10+20*(i:Int)) lines 4 h1.1
  skip
  refine D9 (by kernel_rfl) (by kernel_rfl) (D8 V V (D8 V V (D8 V V (B5 (A8 V (.pure _ _ _ _) V (by omega) hnm) V V (B5 (A7 V V) V V (D8 V V (D8 V V (B5 (b8 V V (by omega)) V V (D8 V V (B5 (A63 V V (by omega)) V V (B5 (b8 V V (by omega)) V V (D8 V V (B5 (L0 (blob_ok raw (k+10+20*(i:Int)) lines 4 (by omega) (by omega) (by omega)) V V) V V (B5 (J3 V) V V (B5 (C1 (c:=Q4) (ys:=[⟨nm,C13 raw (k+10+20*(i:Int)) lines 4⟩]) (D2 V V V V F1) V V V) V V (G59 (G9 V V V (.pure _ _ _ _) (by (simp only [J17,J21];omega)) V) V V (B5 (H5 V V) V V (N3 ?_))))))))))))))))));refine k4 (k1 (A2 (A3 V V (D1 V V V (A6 V V (A4 ?_))))));refine k1 ?_;refine ⟨(i+1,out++[⟨nm,C13 raw (k+10+20*(i:Int)) lines 4⟩]),⟨hlt,by rw [J19,List.length_singleton];omega,fun f hf=>?_⟩,by dsimp only;omega,(I89 ⟨le1 rfl,le1 rfl,le1 rfl,le1 rfl,le1 rfl,le1 rfl,trivial⟩ ⟨rfl,trivial⟩)⟩
  rcases List.mem_append.1 hf with hf | hf
  ·exact hall f hf
  ·rw [List.mem_singleton.1 hf];exact ⟨hnl,by dsimp only;omega⟩
 ·refine k5 (k4 (k1 (A2 (A3 V V (D1 V V V (A6 V V (A4 ?_)))))));refine k1 ?_
  exact ⟨(i+1,out),⟨hlt,by dsimp only;omega,hall⟩,by dsimp only;omega,(I89 ⟨le1 rfl,le1 rfl,le1 rfl,le1 rfl,le1 rfl,le1 rfl,trivial⟩ ⟨rfl,trivial⟩)⟩
theorem G92 (l:List File) (raw:List Int) (k lines:Int) (B:Nat) (hl:GF B l) (hB:B≤3000000) (h0:0≤k∧k≤1000000) (h1:0≤lines∧lines≤16):FnOk Tryz.prog 15 [O3 l,I0 raw,E6 k,E6 lines] (fun rs=>∃l',rs=[O3 l']∧GF (5*B+64) l'):=by
 have hll:=hl.len
 refine FnOk.intro Tryz.func15 (by decide) V V V V ?_
 refine k2 (A2 (A6 V V (A4 ?_)));refine k1 (k2 (A2 (C6 (N0 9 _ Q4 V) V (A4 ?_))));refine k1 (k2 (A2 (A3 V V (A3 V V (D1 V V V (C9 (A14 raw (k+3) (by omega) (by omega)) V V V ?_))))));rintro _ rfl;refine C9 (B35 (c9 raw (k+3)) 4 (by omega) (by omega)) V V V ?_;rintro _ rfl;refine A6 V V (A4 ?_)
 obtain ⟨m,hm⟩:∃m,m=b9 (c9 raw (k+3)) 4:=⟨_,rfl⟩
 rw [←hm]
 refine k1 (k2 (k2 (A2 (A6 V V (A4 ?_)))));refine k1 (k3 (C5 (X:=Nat × List File) (fun x=>([(0,C7 File 2 Q4 l),(1,C7 Int 1 E3 raw),(2,C0 k),(3,C0 lines),(9,.s (.one (.buf 9 File 2 Q4 x.2))),(10,C0 m),(11,C0 x.1)],[(9,.spare x.2.length 2 55)])) (fun x=>x.1≤l.length∧x.2.length≤x.1∧∀f∈x.2,f.Path.length≤3∧f.Blob.length≤5*B+64) (fun x=>l.length - x.1) (0,[]) ⟨Nat.zero_le _,Nat.le_refl _,fun _ h=>by cases h⟩ (I89 ⟨le1 rfl,le1 rfl,le1 rfl,le1 rfl,le1 rfl,le1 rfl,le1 rfl,trivial⟩ ⟨rfl,trivial⟩) ?_))
 rintro ⟨i,out⟩ ⟨hi,hol,hall⟩
 dsimp only at hi hol hall ⊢
 refine k2 (k2 (A2 (A3 V V (A3 V V (E1 V V (E7 V V V (A4 ?_)))))));refine k1 ?_;refine B0 rfl (fun ht=>?_) (fun ht=>?_)
 rotate_left
 ·refine k6 (k2 (k2 (A2 (A3 V V (A5 (U0 V (.buf _ _ _ _ _)) V (A5 (F8 V V) V (A4 ?_)))))));refine k1 ?_;refine B0 rfl (fun ht=>?_) (fun ht=>?_)
  ·refine k2 (A2 (A3 V V (A3 V V (A3 V V (C9 (E94 raw k lines h0 h1) V V V ?_)))));rintro _ ⟨l',rfl,hl'⟩;refine A6 V V (A4 ?_);refine k1 (k10 (k11 ?_))
   exact B6 (rs:=[O3 l']) (G7 rfl rfl rfl) ⟨l',rfl,hl'.mono (by omega)⟩
  ·refine k5 (k1 (k2 (A2 (A3 V V (A6 V V (A4 ?_))))));refine k1 (k10 ?_)
   exact B6 (rs:=[O3 out]) (G7 rfl rfl rfl) ⟨out,rfl,by omega,hall⟩
 have hlt:i < l.length:=by have h1:=A0 ht;(try dsimp only at h1);omega
 obtain ⟨f,hf⟩:∃f,f=l[i]:=⟨_,rfl⟩
 have hv:l[i]?=some f:=by rw [hf];simp [hlt]
 obtain ⟨hfp,hfb⟩:=hl.all f (by rw [hf];exact J18 hlt)
 have hnl:=G91 f.Blob raw (k+7)
 refine k5 (k1 (k2 (k3 (k2 (A2 (A3 V V (A3 V V (A5 (A8 V (.pure _ _ _ _) V (by omega) hv) V (A5 (E0 V V) V (C6 (J6 12 V) V (H1 (C2 TySz.out V V V V V V) (A4 ?_))))))))))));refine k1 (k2 (k2 (A2 (A3 V V (A3 V V (A5 (F8 V V) V (A4 ?_)))))));refine k1 ?_;refine B0 rfl (fun ht=>?_) (fun ht=>?_)
 ·refine k2 (A2 (A5 (A9 V) V (G4 V V V V (A3 V V (A3 V V (D1 V V V (C9 (near_ok f.Blob raw (k+7) (by omega) (by omega)) V V V ?_)))))));rintro _ rfl;refine A5 (A9 V) V (H1 (C2 TySz.out V V V V V V) (A4 ?_));refine k1 (k2 (A2 (A3 V V (A3 V V (D1 V V V (C9 (A14 raw (k+5) (by omega) (by omega)) V V V ?_))))));rintro _ rfl;refine A5 (A64 V V (by omega)) V (A5 (F8 V V) V (A4 ?_));refine k1 ?_;refine B0 rfl (fun ht=>?_) (fun ht=>?_)
  ·refine k6 (k7 (k8 V (k1 (A2 (A3 V V (D1 V V V (A6 V V (A4 ?_))))))));refine k1 ?_
   exact ⟨(i+1,out),⟨hlt,by dsimp only;omega,hall⟩,by dsimp only;omega,(I89 ⟨le1 rfl,le1 rfl,le1 rfl,le1 rfl,le1 rfl,le1 rfl,le1 rfl,trivial⟩ ⟨rfl,trivial⟩)⟩
  ·refine k5 (k1 (A2 (A3 V V (A5 (P8 V V V) V (A5 (C1 (c:=Q4) (ys:=[⟨f.Path,C14 f.Blob raw (k+7)⟩]) (D2 V V V V F1) V V V) V (C6 (G9 V V V (.pure _ _ _ _) (by (simp only [J17,J21];omega)) V) V (A6 V V (A4 ?_))))))));refine k4 (k1 (A2 (A3 V V (D1 V V V (A6 V V (A4 ?_))))));refine k1 ?_;refine ⟨(i+1,out++[⟨f.Path,C14 f.Blob raw (k+7)⟩]),⟨hlt,by rw [J19,List.length_singleton];omega,fun x hx=>?_⟩,by dsimp only;omega,(I89 ⟨le1 rfl,le1 rfl,le1 rfl,le1 rfl,le1 rfl,le1 rfl,le1 rfl,trivial⟩ ⟨rfl,trivial⟩)⟩
   rcases List.mem_append.1 hx with hx | hx
   ·exact hall x hx
   ·rw [List.mem_singleton.1 hx];exact ⟨hfp,by dsimp only;omega⟩
 ·refine k5 (k1 (A2 (A3 V V (A5 (P8 V V V) V (A5 (C1 (c:=Q4) (ys:=[f]) (D2 V V V V F1) V V V) V (C6 (G9 V V V (.pure _ _ _ _) (by (simp only [J17,J21];omega)) V) V (A6 V V (A4 ?_))))))));refine k4 (k1 (A2 (A3 V V (D1 V V V (A6 V V (A4 ?_))))));refine k1 ?_;refine ⟨(i+1,out++[f]),⟨hlt,by rw [J19,List.length_singleton];omega,fun x hx=>?_⟩,by dsimp only;omega,(I89 ⟨le1 rfl,le1 rfl,le1 rfl,le1 rfl,le1 rfl,le1 rfl,le1 rfl,trivial⟩ ⟨rfl,trivial⟩)⟩
  rcases List.mem_append.1 hx with hx | hx
  ·exact hall x hx
  ·rw [List.mem_singleton.1 hx];exact ⟨hfp,by omega⟩
set_option maxHeartbeats 1000000
structure GG (B:Nat) (g:Graph):Prop where
 len:g.length≤16
 pars:∀c∈g,c.Parents.length≤3∧∀p∈c.Parents,0≤p∧p < (g.length:Int)
 files:∀c∈g,GF B c.Files
theorem GG.few {B:Nat} {g:Graph} (h:GG B g) (hB:B≤16777216):FewT g :=
 ⟨⟨by have:=h.len;omega,fun c hc=>by have:=(h.pars c hc).1;omega⟩,fun c hc=>(h.files c hc).few hB⟩
theorem GG.short {B:Nat} {g:Graph} (h:GG B g):Short g:=fun c=>by
 unfold R6
 by_cases hc:c < g.length
 ·rw [J14 hc]
  have:=(h.files _ (J18 hc)).len
  show g[c].Files.length≤6
  omega
 ·rw [J37 (by omega)];simp
theorem G93 (g:Graph) (raw:List Int) (B:Nat) (hg:GG B g):FnOk Tryz.prog 16 [I1 g,I0 raw] (fun rs=>∃g',rs=[I1 g']∧GG B g'):=by
 have hgl:=hg.len
 refine FnOk.intro Tryz.func16 (by decide) V V V V ?_
 refine k2 (A2 (A6 V V (A4 ?_)));refine k1 (k2 (k2 (A2 (A3 V V (C9 (A14 raw 3 (by omega) (by omega)) V V V ?_)))));rintro _ rfl;refine A5 (A64 V V (by omega)) V (A5 (F8 V V) V (A4 ?_));refine k1 ?_;refine B0 rfl (fun ht=>?_) (fun ht=>?_)
 ·refine k2 (A2 (A3 V V (A6 V V (A4 ?_))));refine k1 (k10 (k11 ?_))
  exact B6 (rs:=[I1 g]) (G7 rfl rfl rfl) ⟨g,rfl,hg⟩
 refine k5 (k1 (k2 (A2 (A3 V V (E1 V V (A6 V V (A4 ?_)))))));refine k1 (k2 (A2 (A3 V V (C6 (i7 760 Commit F6 ⟨[],0,[]⟩ V V (by omega) (by omega) (fun _=>by first | exact ⟨⟨rfl,rfl⟩,trivial⟩ | exact ⟨H2 _ _ _,trivial⟩ | exact ⟨H2 _ _ _,⟨rfl,rfl⟩,H2 _ _ _,trivial⟩) (by first | rfl | (simp [K4,J5,Ob.free,SV.free,S1.free,TC.free]<;>rfl))) V ?_))));refine A6 V V (A4 ?_)
 rw [J16]
 refine k1 (k2 (k2 (A2 (A6 V V (A4 ?_)))));refine k1 (k3 (C5 (X:=Nat × List Commit) (fun x=>([(0,C7 Commit 3 F6 g),(5,C0 g.length),(6,.s (.one (.mut 760))),(7,C0 x.1)],[(760,.arr Commit 3 F6 x.2)])) (fun x=>x.1≤g.length∧x.2.length=g.length∧(∀y∈x.2,y.Parents.length≤3∧∀p∈y.Parents,0≤p∧p < (g.length:Int))∧∀y∈x.2,GF B y.Files) (fun x=>g.length - x.1) (0,List.replicate g.length ⟨[],0,[]⟩) ⟨Nat.zero_le _,J47,fun y hy=>by rw [(List.mem_replicate.1 hy).2];exact ⟨by simp,fun p hp=>by cases hp⟩,fun y hy=>by rw [(List.mem_replicate.1 hy).2];exact ⟨by simp,fun f hf=>by cases hf⟩⟩ (I89 ⟨le1 rfl,le1 rfl,le1 rfl,le1 rfl,trivial⟩ ⟨rfl,trivial⟩) ?_))
 rintro ⟨c,o⟩ ⟨hc,hol,hop,hof⟩
 dsimp only at hc hol hop hof ⊢
 refine k2 (k2 (A2 (A3 V V (A3 V V (E7 V V V (A4 ?_))))));refine k1 ?_;refine B0 rfl (fun ht=>?_) (fun ht=>?_)
 rotate_left
 ·refine k6 (k2 (E2 (Sees.freeze (k:=760) V) ?_))
  refine A2 (A3 V V (A6 V V (A4 ?_)));refine k1 (k10 ?_)
  exact B6 (rs:=[I1 o]) (G7 rfl rfl rfl) ⟨o,rfl,by omega,by rw [hol];exact hop,hof⟩
 have hlt:c < g.length:=by have h1:=A0 ht;(try dsimp only at h1);omega
 obtain ⟨cm,hcm⟩:∃cm,cm=g[c]:=⟨_,rfl⟩
 have hv:g[c]?=some cm:=by rw [hcm];simp [hlt]
 have hm:cm∈g:=by rw [hcm];exact J18 hlt
 obtain ⟨hp3,hpr⟩:=hg.pars cm hm
 have hcf:=hg.files cm hm
 refine k5 (k1 (k2 (k3 (k2 (A2 (A3 V V (A3 V V (A5 (A8 V (.pure _ _ _ _) V (by omega) hv) V (A5 (E0 V V) V (C6 (J6 8 V) V (H1 (C2 TySz.out V V V V V V) (A4 ?_))))))))))));refine k1 (k2 (A2 (A5 (A9 V) V (H1 (C2 TySz.out V V V V V V) (A4 ?_)))));refine k1 (k2 (k2 (E2 (J01 753 Int 1 E3 3 (kb:=8) (o:=0) V V V) ?_)))
 refine A2 (A6 V V (A4 ?_));refine k1 (k3 (C5 (X:=Nat × List Int) (fun x=>([(0,C7 Commit 3 F6 g),(5,C0 g.length),(6,.s (.one (.mut 760))),(7,C0 c),(8,.s (.one (.ref 8 0))),(9,C0 x.1)],[(8,.box [.buf 753 Int 1 E3 x.2,.p (.v (.int .i64 cm.Date)),.p (.list File 2 Q4 cm.Files)]),(753,.spare x.2.length 1 3),(760,.arr Commit 3 F6 o)])) (fun x=>x.1≤cm.Parents.length∧x.2.length=x.1∧∀q∈x.2,0≤q∧q < (g.length:Int)) (fun x=>cm.Parents.length - x.1) (0,[]) ⟨Nat.zero_le _,rfl,fun _ h=>by cases h⟩ (I89 ⟨le1 rfl,le1 rfl,le1 rfl,le1 rfl,le1 rfl,le1 rfl,trivial⟩ ⟨rfl,rfl,rfl,trivial⟩) ?_))
 rintro ⟨p,ps⟩ ⟨hp,hpl,hps⟩
 dsimp only at hp hpl hps ⊢
 refine k2 (k2 (A2 (A3 V V (A3 V V (A3 V V (A5 (A8 V (.pure _ _ _ _) V (by omega) hv) V (A5 (B8 V) V (A5 (A7 V V) V (E1 V V (E7 V V V (A4 ?_)))))))))));refine k1 ?_;refine B0 rfl (fun ht=>?_) (fun ht=>?_)
 ·have hplt:p < cm.Parents.length:=by have h1:=A0 ht;(try dsimp only at h1);omega
  obtain ⟨q,hq⟩:∃q,q=cm.Parents[p]:=⟨_,rfl⟩
  have hvq:cm.Parents[p]?=some q:=by rw [hq];simp [hplt]
  have hqr:=hpr q (by rw [hq];exact J18 hplt)
  refine k5 (k1 (k2 (k3 (D9 (by kernel_rfl) (by kernel_rfl) (B5 (A9 V) V V (B5 (C4 V V V) V V (D8 V V (B5 (K9 V V (by omega)) V V (D8 V V (D8 V V (B5 (A8 V (.pure _ _ _ _) V (by omega) hv) V V (B5 (B8 V) V V (B5 (A7 V V) V V (D8 V V (B5 (A8 V (.pure _ _ _ _) V (by omega) hvq) V V (B5 (A7 V V) V V (B5 (K9 V V (by omega)) V V (B5 (C1 (c:=E3) (ys:=[(g.length:Int) - 1 - q]) (D2 V V V V F1) V V V) V V (G59 (G9 V V V (.pure _ _ _ _) (by (simp only [J17,J21];omega)) V) V V (B5 (A9 V) V V (d_eff (C2 TySz.out V V V V V V) V (N3 ?_))))))))))))))))))))));refine k4 (k1 (A2 (A3 V V (D1 V V V (A6 V V (A4 ?_))))));refine k1 ?_;refine ⟨(p+1,ps++[(g.length:Int) - 1 - q]),⟨hplt,by rw [J19,List.length_singleton];dsimp only;omega,fun x hx=>?_⟩,by dsimp only;omega,(I89 ⟨le1 rfl,le1 rfl,le1 rfl,le1 rfl,le1 rfl,le1 rfl,trivial⟩ ⟨rfl,rfl,rfl,trivial⟩)⟩
  rcases List.mem_append.1 hx with hx | hx
  ·exact hps x hx
  ·rw [List.mem_singleton.1 hx];omega
 have hi:0≤(g.length:Int) - 1 - c∧(g.length:Int) - 1 - c < o.length:=by omega
 have hvo:o[((g.length:Int) - 1 - c).toNat]?=some o[((g.length:Int) - 1 - c).toNat]:=J14 (by omega)
 refine k6 (k7 (k7 (k8 V (k1 (A2 (A3 V V (A3 V V (A5 (K9 V V (by omega)) V (A3 V V (A5 (K9 V V (by omega)) V (A5 (P8 V V V) V (A5 (F3 V V V (by omega) (by omega)) V (H1 (C31 (y:=⟨ps,cm.Date,cm.Files⟩) TySz.out V V hvo V V V V (fun _ _ us h=>by first | exact A10 h | (match us,h with | [_,_,_],h=>exact ⟨h.1.2,h.2.1,h.2.2.1,trivial⟩)) (by intro j h1 h2;rcases j with _ | _ | _ | j<;>first | rfl | omega)) ?_)))))))))))));refine A4 ?_;refine k4 (k1 (A2 (A3 V V (D1 V V V (A6 V V (A4 ?_))))));refine k1 ?_;refine ⟨(c+1,o.set ((g.length:Int) - 1 - c).toNat ⟨ps,cm.Date,cm.Files⟩),⟨hlt,by dsimp only;rw [J39];exact hol,fun y hy=>?_,fun y hy=>?_⟩,by dsimp only;omega,(I89 ⟨le1 rfl,le1 rfl,le1 rfl,le1 rfl,trivial⟩ ⟨rfl,trivial⟩)⟩
 ·rcases List.mem_or_eq_of_mem_set hy with hy | rfl
  ·exact hop y hy
  ·exact ⟨by dsimp only;omega,hps⟩
 ·rcases List.mem_or_eq_of_mem_set hy with hy | rfl
  ·exact hof y hy
  ·exact hcf
set_option maxHeartbeats 2000000
def D42:Nat→Nat
 | 0=>64
 | c+1=>5*D42 c+64
theorem bndG_le (c:Nat) (h:c≤6):64≤D42 c∧D42 c≤1250000:=by
 match c,h with
 | 0,_=>decide
 | 1,_=>decide
 | 2,_=>decide
 | 3,_=>decide
 | 4,_=>decide
 | 5,_=>decide
 | 6,_=>decide
theorem GG.mono {B B':Nat} {g:Graph} (h:GG B g) (hB:B≤B'):GG B' g:=⟨h.len,h.pars,fun c hc=>(h.files c hc).mono hB⟩
theorem I10 (raw:List Int) (n lines:Int) (hn:0≤n∧n≤6) (hl:0≤lines∧lines≤16):FnOk Tryz.prog 4 [I0 raw,E6 n,E6 lines] (fun rs=>∃g,rs=[I1 g]∧GG 1250000 g):=by
 have hmi:=A13 (c9 raw 0) (n:=n+1) (by omega)
 obtain ⟨m,hm⟩:∃m:Nat,b9 (c9 raw 0) (n+1)=(m:Int):=⟨(b9 (c9 raw 0) (n+1)).toNat,by omega⟩
 have hm6:m≤6:=by omega
 refine FnOk.intro Tryz.func4 (by decide) V V V V ?_
 refine k2 (A2 (A6 V V (A4 ?_)));refine k1 (k2 (A2 (A3 V V (C9 (A14 raw 0 (by omega) (by omega)) V V V ?_))));rintro _ rfl;refine A3 V V (D1 V V V (C9 (B35 (c9 raw 0) (n+1) (by omega) (by omega)) V V V ?_));rintro _ rfl;refine A6 V V (A4 ?_)
 rw [hm]
 refine k1 (k2 (A2 (C6 (G61 7 (c:=F6) (ys:=([]:List Commit)) F1 V V V (by first | rfl | (simp [K4,J5,Ob.free,SV.free,S1.free,TC.free]<;>rfl))) V ?_)));refine A6 V V (A4 ?_);refine k1 (k2 (k2 (A2 (A6 V V (A4 ?_)))));refine k1 (k3 (C5 (X:=Nat × List Commit) (fun x=>([(0,C7 Int 1 E3 raw),(1,C0 m),(2,C0 lines),(7,.s (.one (.buf 7 Commit 3 F6 x.2))),(8,C0 x.1)],[(7,.spare x.2.length 3 36)])) (fun x=>x.1≤m∧x.2.length=x.1∧(∀y∈x.2,y.Parents.length≤3∧∀p∈y.Parents,0≤p∧p < (x.1:Int))∧∀y∈x.2,GF (D42 x.1) y.Files) (fun x=>m - x.1) (0,[]) ⟨Nat.zero_le _,rfl,(fun _ h=>by cases h),(fun _ h=>by cases h)⟩ (I89 ⟨le1 rfl,le1 rfl,le1 rfl,le1 rfl,le1 rfl,trivial⟩ ⟨rfl,trivial⟩) ?_))
 rintro ⟨c,gs⟩ ⟨hc,hgl,hgp,hgf⟩
 dsimp only at hc hgl hgp hgf ⊢
 obtain ⟨hb1,hb2⟩:=bndG_le c (by omega)
 refine k2 (k2 (A2 (A3 V V (A3 V V (E7 V V V (A4 ?_))))));refine k1 ?_;refine B0 rfl (fun ht=>?_) (fun ht=>?_)
 rotate_left
 ·refine k6 (k2 (A2 (A3 V V (A3 V V (C9 (G93 gs raw (D42 c) ⟨by omega,by rw [hgl];exact hgp,hgf⟩) V V V ?_)))));rintro _ ⟨g',rfl,hg'⟩;refine A6 V V (A4 ?_);refine k1 (k10 ?_)
  exact B6 (rs:=[I1 g']) (G7 rfl rfl rfl) ⟨g',rfl,GG.mono hg' hb2⟩
 have hlt:c < m:=by have h1:=A0 ht;(try dsimp only at h1);omega
 refine k5 (k1 (k2 (k3 (k2 (A2 (A3 V V (A3 V V (D1 V V V (C9 (A14 raw (1000+(c:Int)) (by omega) (by omega)) V V V ?_)))))))));rintro _ rfl;refine C9 (B35 (c9 raw (1000+(c:Int))) 5 (by omega) (by omega)) V V V ?_;rintro _ rfl;refine A5 (J3 V) V (C6 (J6 9 V) V (H1 (C2 TySz.out V V V V V V) (A4 ?_)))
 obtain ⟨d,hd⟩:∃d,d=b9 (c9 raw (1000+(c:Int))) 5:=⟨_,rfl⟩
 rw [←hd]
 refine k1 (k2 (k2 (E2 (J01 753 Int 1 E3 3 (kb:=9) (o:=0) V V V) ?_)))
 refine A2 (A6 V V (A4 ?_));refine k1 (k3 (C5 (X:=Nat × List Int) (fun x=>([(0,C7 Int 1 E3 raw),(1,C0 m),(2,C0 lines),(7,.s (.one (.buf 7 Commit 3 F6 gs))),(8,C0 c),(9,.s (.one (.ref 9 0))),(10,C0 x.1)],[(7,.spare gs.length 3 36),(9,.box [.buf 753 Int 1 E3 x.2,.p (.v (.int .i64 d)),.p (.v (.slice none 0 0))]),(753,.spare x.2.length 1 3)])) (fun x=>x.1≤c∧x.2.length≤3∧∀q∈x.2,0≤q∧q < (c:Int)) (fun x=>c - x.1) (0,[]) ⟨Nat.zero_le _,by simp,(fun _ h=>by cases h)⟩ (I89 ⟨le1 rfl,le1 rfl,le1 rfl,le1 rfl,le1 rfl,le1 rfl,le1 rfl,trivial⟩ ⟨rfl,rfl,rfl,trivial⟩) ?_))
 rintro ⟨p,ps⟩ ⟨hp,hpl,hps⟩
 dsimp only at hp hpl hps ⊢
 refine k2 (k2 (A2 (A3 V V (A3 V V (E7 V V V (A4 ?_))))));refine k1 ?_;refine B0 rfl (fun ht=>?_) (fun ht=>?_)
 ·have hplt:p < c:=by have h1:=A0 ht;(try dsimp only at h1);omega
  refine k5 (k1 (k2 (k3 (k2 (A2 (A3 V V (A3 V V (A5 (A63 V V (by omega)) V (D1 V V V (A3 V V (D1 V V V (C9 (A14 raw (1100+40*(c:Int)+(p:Int)) (by omega) (by omega)) V V V ?_))))))))))));rintro _ rfl;refine A5 (A64 V V (by omega)) V (A5 (F8 V V) V (A3 V V (B1 V V V V (fun hg=>by rw [hg];exact A9 V) ?_)));refine B1 V V V V (fun hg=>by rw [hg];exact C4 V V V) ?_;refine B1 V V V V (fun hg=>by rw [hg];exact U0 V (.buf _ _ _ _ _)) ?_;refine B1 V V V V (fun hg=>by rw [hg];exact A04 V V) ?_;refine I5 V V ?_;refine A4 ?_;refine k1 ?_;refine B0 rfl (fun ht=>?_) (fun ht=>?_)
  ·have h2:=(A0 (and_pick.symm.trans ht)).2
   skip
   refine A2 (A5 (A9 V) V (G4 V V V V (A3 V V (A5 (C1 (c:=E3) (ys:=[(p:Int)]) (D2 V V V V F1) V V V) V (C6 (G9 V V V (.pure _ _ _ _) (by (simp only [J17,J21];omega)) V) V (A5 (A9 V) V (H1 (C2 TySz.out V V V V V V) (A4 ?_))))))));refine k4 (k1 (A2 (A3 V V (D1 V V V (A6 V V (A4 ?_))))));refine k1 ?_;refine ⟨(p+1,ps++[(p:Int)]),⟨hplt,by rw [J19,List.length_singleton];omega,fun x hx=>?_⟩,by dsimp only;omega,(I89 ⟨le1 rfl,le1 rfl,le1 rfl,le1 rfl,le1 rfl,le1 rfl,le1 rfl,trivial⟩ ⟨rfl,rfl,rfl,trivial⟩)⟩
   rcases List.mem_append.1 hx with hx | hx
   ·exact hps x hx
   ·rw [List.mem_singleton.1 hx];omega
  ·refine k5 (k4 (k1 (A2 (A3 V V (D1 V V V (A6 V V (A4 ?_)))))));refine k1 ?_
   exact ⟨(p+1,ps),⟨hplt,hpl,hps⟩,by dsimp only;omega,(I89 ⟨le1 rfl,le1 rfl,le1 rfl,le1 rfl,le1 rfl,le1 rfl,le1 rfl,trivial⟩ ⟨rfl,rfl,rfl,trivial⟩)⟩
 refine k6 (k2 (k2 (A2 (A5 (A9 V) V (G4 V V V V (A5 (U0 V (.buf _ _ _ _ _)) V (A5 (F8 V V) V (A3 V V (B1 V V V V (fun hg=>by rw [hg];exact B7 V V) ?_)))))))));refine B1 V V V V (fun hg=>by rw [hg];exact L7 V V) ?_;refine I5 V V ?_;refine A3 V V (B1 V V V V (fun hg=>by rw [hg];exact B7 V V) ?_);refine B1 V V V V (fun hg=>by rw [hg];exact B7 V V) ?_;refine B1 V V V V (fun hg=>by have hq:=hg;(try simp at hq);rw [hg];exact b8 V V (by omega)) ?_;refine B1 V V V V (fun hg=>by have hq:=hg;(try simp at hq);rw [hg];exact L0 (A14 raw (1500+(c:Int)) (by omega) (by omega)) V V) ?_;refine B1 V V V V (fun hg=>by have hq:=hg;(try simp at hq);rw [hg];exact A64 V V (by omega)) ?_;refine B1 V V V V (fun hg=>by rw [hg];exact L7 V V) ?_;refine I5 V V ?_;refine A4 ?_;refine k1 ?_;refine D86 (X:=List Int) (fun qs=>([(0,C7 Int 1 E3 raw),(1,C0 m),(2,C0 lines),(7,.s (.one (.buf 7 Commit 3 F6 gs))),(8,C0 c),(9,.s (.one (.ref 9 0)))],[(7,.spare gs.length 3 36),(9,.box [.p (.list Int 1 E3 qs),.p (.v (.int .i64 d)),.p (.v (.slice none 0 0))])])) (fun qs=>qs.length≤3∧∀q∈qs,0≤q∧q < (c:Int)) ?_ ?_
 ·refine B0 rfl (fun ht=>?_) (fun ht=>?_)
  ·rw [n8,n8,J15,J15] at ht
   have h2:=A0 ht.1.2
   skip
   refine A2 (A3 V V (A5 (K9 V V (by omega)) V (A5 (C1 (c:=E3) (ys:=[(c:Int) - 1]) (D2 V V V V F1) V V V) V (A5 (A9 V) V (H1 (C2 TySz.out V V V V V V) (A4 ?_))))));refine k1 ?_
   exact ⟨[(c:Int) - 1],⟨by simp,fun q hq=>by rw [List.mem_singleton.1 hq];omega⟩,Sees.trans (J05 9 0 rfl rfl rfl) (I89 ⟨le1 rfl,le1 rfl,le1 rfl,le1 rfl,le1 rfl,le1 rfl,trivial⟩ ⟨rfl,rfl,trivial⟩)⟩
  ·refine k5 (k1 ?_)
   exact ⟨ps,⟨hpl,hps⟩,Sees.trans (J05 9 0 rfl rfl rfl) (I89 ⟨le1 rfl,le1 rfl,le1 rfl,le1 rfl,le1 rfl,le1 rfl,trivial⟩ ⟨rfl,rfl,trivial⟩)⟩
 rintro qs ⟨hql,hqs⟩
 dsimp only
 refine k2 (A2 (A3 V V (A3 V V (A5 (A63 V V (by omega)) V (D1 V V V (A3 V V (C9 (E94 raw (2000+200*(c:Int)) lines (by omega) hl) V V V ?_)))))));rintro _ ⟨fl,rfl,hfl⟩;refine A5 (A9 V) V (H1 (C2 TySz.out V V V V V V) (A4 ?_));refine k1 (k2 (k2 (A2 (A5 (A9 V) V (G4 V V V V (E1 V V (A5 (L7 V V) V (A3 V V (B1 V V V V (fun hg=>by rw [hg];exact B7 V V) ?_)))))))));refine B1 V V V V (fun hg=>by rw [hg];exact B7 V V) ?_;refine B1 V V V V (fun hg=>by have hq:=hg;(try simp at hq);rw [hg];exact b8 V V (by omega)) ?_;refine B1 V V V V (fun hg=>by have hq:=hg;(try simp at hq);rw [hg];exact L0 (A14 raw (1600+(c:Int)) (by omega) (by omega)) V V) ?_;refine B1 V V V V (fun hg=>by have hq:=hg;(try simp at hq);rw [hg];exact A64 V V (by omega)) ?_;refine B1 V V V V (fun hg=>by rw [hg];exact L7 V V) ?_;refine I5 V V ?_;refine A4 ?_;refine k1 ?_;refine D86 (X:=List File) (fun fs=>([(0,C7 Int 1 E3 raw),(1,C0 m),(2,C0 lines),(7,.s (.one (.buf 7 Commit 3 F6 gs))),(8,C0 c),(9,.s (.one (.ref 9 0)))],[(7,.spare gs.length 3 36),(9,.box [.p (.list Int 1 E3 qs),.p (.v (.int .i64 d)),.p (.list File 2 Q4 fs)])])) (fun fs=>GF (D42 (c+1)) fs) ?_ ?_
 ·refine B0 rfl (fun ht=>?_) (fun ht=>?_)
  ·rw [n8,J15] at ht
   have h2:=A0 ht.1
   obtain ⟨q,qr,rfl⟩:∃q qr,qs=q::qr:=by
    cases qs with
    | nil=>simp at h2
    | cons q qr=>exact ⟨q,qr,rfl⟩
   have hqr:=hqs q (by simp)
   have hqg:q.toNat < gs.length:=by omega
   obtain ⟨cq,hcq⟩:∃cq,cq=gs[q.toNat]:=⟨_,rfl⟩
   have hvq:gs[q.toNat]?=some cq:=by rw [hcq];simp [hqg]
   have hcf:=hgf cq (by rw [hcq];exact J18 hqg)
   skip
   refine A2 (A3 V V (A5 (A9 V) V (G4 V V V V (A5 (A8 V (.pure _ _ _ _) V (by omega) (show (q::qr)[Int.toNat 0]?=some q from V)) V (A5 (A7 V V) V (A5 (A8 V (.buf _ _ _ _ _) V (by omega) hvq) V (A5 (B8 V) V (A5 (A7 V V) V (A3 V V (A3 V V (A5 (A63 V V (by omega)) V (D1 V V V (A3 V V (C9 (G92 cq.Files raw (2000+200*(c:Int)) lines (D42 c) hcf (by omega) (by omega) hl) V V V ?_))))))))))))));rintro _ ⟨fl2,rfl,hfl2⟩;refine A5 (A9 V) V (H1 (C2 TySz.out V V V V V V) (A4 ?_));refine k1 ?_
   exact ⟨fl2,hfl2,(I89 ⟨le1 rfl,le1 rfl,le1 rfl,le1 rfl,le1 rfl,le1 rfl,trivial⟩ ⟨rfl,rfl,trivial⟩)⟩
  ·refine k5 (k1 ?_)
   exact ⟨fl,hfl.mono (show 64≤D42 (c+1) by rw [D42];omega),(I89 ⟨le1 rfl,le1 rfl,le1 rfl,le1 rfl,le1 rfl,le1 rfl,trivial⟩ ⟨rfl,rfl,trivial⟩)⟩
 intro fs hfs
 dsimp only
 skip
 refine A2 (A3 V V (A5 (P8 V V V) V (A5 (C1 (c:=F6) (ys:=[⟨qs,d,fs⟩]) (D2 V V V V F1) V V V) V (C6 (G9 V V V (.pure _ _ _ _) (by (simp only [J17,J21];omega)) V) V (A6 V V (A4 ?_))))));refine k4 (k1 (A2 (A3 V V (D1 V V V (A6 V V (A4 ?_))))));refine k1 ?_;refine ⟨(c+1,gs++[⟨qs,d,fs⟩]),⟨hlt,by dsimp only;rw [J19,List.length_singleton,hgl],fun y hy=>?_,fun y hy=>?_⟩,by dsimp only;omega,(I89 ⟨le1 rfl,le1 rfl,le1 rfl,le1 rfl,le1 rfl,trivial⟩ ⟨rfl,trivial⟩)⟩
 ·rcases List.mem_append.1 hy with hy | hy
  ·exact ⟨(hgp y hy).1,fun p hp=>by have:=(hgp y hy).2 p hp;dsimp only;omega⟩
  ·rw [List.mem_singleton.1 hy];exact ⟨hql,fun p hp=>by have:=hqs p hp;dsimp only;omega⟩
 ·rcases List.mem_append.1 hy with hy | hy
  ·exact (hgf y hy).mono (show D42 c≤D42 (c+1) by rw [D42];omega)
  ·rw [List.mem_singleton.1 hy];exact hfs
set_option maxHeartbeats 1000000
abbrev U3 (s:Str) (a d:Nat):Ob:=.box [.p (.v (.string ⟨s.toArray⟩)),.p (.v (.int .i64 a)),.p (.v (.int .i64 d)),.mut 811]
abbrev V3 (l:List AL.Node):Ob:=.grow 178 AL.Node 8 B17 l
abbrev d6 (c:UInt8):S1:=.one (.p (.v (.int .u8 c.toNat)))
abbrev Y4:S1:=.one (.ref 810 0)
theorem B40 {gf:Fr} {ob:Obs} (s:Str) (a d:Nat) (ha:a≤s.length) (_hs:s.length≤1000) (h0:B9 ob 810=some (U3 s a d)) :
  AL.Met Tryz.prog 163 [Y4] gf ob [] (fun rs ob'=>rs=[d6 (s.getD a 0),B13 (decide (a < s.length))]∧ob'=ob):=by
 refine AL.Met.intro Tryz.func163 (by decide) V V V ?_
 refine k2 (A2 (A6 V V (A6 V V (A4 ?_))));refine k1 (k2 (k2 (D9 (by kernel_rfl) (by kernel_rfl) (D8 V V (B5 (B4 V) V V (B5 (A9 V) V V (B5 (C4 V h0 V) V V (D8 V V (B5 (B4 V) V V (B5 (A9 V) V V (B5 (C4 V h0 V) V V (B5 (J2 V) V V (B5 (F8 V V) V V (N3 ?_))))))))))))));refine k1 ?_;refine B0 rfl (fun ht=>?_) (fun ht=>?_)
 ·have h1:a=s.length:=by have h1:=A0 ht;omega
  refine k2 (A2 (A6 V V (A6 V V (A4 ?_))));refine k1 (k10 (k11 ?_));refine G5 (rets2 rfl rfl rfl) (by repeat (first | exact B2 | refine B3 rfl ?_ | refine D5 _ ?_)) (fun _ _ h=>h) ⟨?_,rfl⟩
  rw [h1,decide_eq_false (by omega),J20,J37 (by omega)];rfl
 ·have h1:a < s.length:=by have h1:=A1 ht;omega
  have hv:s[((a:Nat):Int).toNat]?=some (s.getD a 0):=by rw [J16,J20,J14 h1];rfl
  refine k5 (k1 (k2 (D9 (by kernel_rfl) (by kernel_rfl) (D8 V V (B5 (B4 V) V V (B5 (A9 V) V V (B5 (C4 V h0 V) V V (D8 V V (B5 (B4 V) V V (B5 (A9 V) V V (B5 (C4 V h0 V) V V (B5 (j9 V V (by omega) hv) V V (B5 (H5 V V) V V (B5 (H5 V V) V V (N3 ?_)))))))))))))));refine k1 (k10 ?_);refine G5 (rets2 rfl rfl rfl) (by repeat (first | exact B2 | refine B3 rfl ?_ | refine D5 _ ?_)) (fun _ _ h=>h) ⟨?_,rfl⟩
  rw [decide_eq_true h1]
theorem F44 {gf:Fr} {ob:Obs} (s:Str) (a d:Nat) (c:UInt8) (ha:a≤s.length) (hs:s.length≤1000) (h0:B9 ob 810=some (U3 s a d)) :
  AL.Met Tryz.prog 121 [Y4,d6 c] gf ob [] (fun rs ob'=>rs=[B13 (decide (s[a]?=some c))]∧ob'=(810,U3 s (if s[a]?=some c then a+1 else a) d)::ob):=by
 have hu:∀x y:UInt8,((x.toNat:Int)=y.toNat)↔x=y:=fun x y=>⟨fun h=>UInt8.toNat_inj.1 (by omega),fun h=>by rw [h]⟩
 refine AL.Met.introH Tryz.func121 (by decide) rfl rfl rfl (fun hH=>?_)
 refine E2 (I90 (l:=[(0,.s Y4),(1,.s (d6 c))]) (ob':=(810,U3 s a d)::ob) ⟨le1 rfl,le1 rfl,trivial⟩ hH (by repeat (first | exact B2 | refine B3 rfl ?_)) (E5 (L:=[(810,_)]) ⟨h0,trivial⟩ D6)) ?_
 refine k2 (A2 (A6 V V (A4 ?_)));refine k1 (k2 (A2 (A3 V V (L1 (B40 s a d ha hs V) V V V ?_))));rintro _ _ ⟨rfl,rfl⟩;refine A3 V V (H0 V V V (H0 V V V (A6 V V (A6 V V (A4 ?_)))));refine k1 (k2 (k2 (A2 (A3 V V (A5 (R7 V) V (A3 V V (B1 V V V V (fun hg=>by rw [hg];exact B7 V V) ?_)))))));refine B1 V V V V (fun hg=>by rw [hg];exact B7 V V) ?_;refine B1 V V V V (fun hg=>by rw [hg];exact Q9 V V) ?_;refine I5 V V ?_;refine A4 ?_;refine k1 ?_
 by_cases hc:s[a]?=some c
 ·have hlt:a < s.length:=(List.getElem?_eq_some_iff.1 hc).1
  have hg:s.getD a 0=c:=by rw [J20,hc];rfl
  rw [decide_eq_true hc,if_pos hc]
  refine B0 rfl (fun ht=>?_) (fun ht=>?_)
  ·rw [E14,decide_eq_true hlt,hg] at ht
   simp at ht
  ·refine k5 (k1 (k2 (A2 (A3 V V (A5 (B4 V) V (A5 (A9 V) V (G4 V V V V (D1 V V V (A5 (B4 V) V (A5 (A9 V) V (H1 (C2 TySz.out V V V V V V) (A4 ?_))))))))))));refine k1 (k2 (A2 (A6 V V (A4 ?_))));refine k1 (k10 ?_)
   exact G5 (K6 rfl rfl) (by repeat (first | exact B2 | refine B3 rfl ?_ | refine D5 _ ?_)) (E5 (L:=[(810,_)]) ⟨rfl,trivial⟩ (by repeat (first | exact D6 | refine D7 rfl ?_))) ⟨rfl,rfl⟩
 ·rw [decide_eq_false hc,if_neg hc]
  refine B0 rfl (fun ht=>?_) (fun ht=>?_)
  ·refine k2 (A2 (A6 V V (A4 ?_)));refine k1 (k10 (k11 ?_))
   exact G5 (K6 rfl rfl) (by repeat (first | exact B2 | refine B3 rfl ?_ | refine D5 _ ?_)) (fun _ _ h=>h) ⟨rfl,rfl⟩
  ·rw [E14,J41] at ht
   have h1:a < s.length:=by simpa using ht.1
   have h2:=A1 ht.2
   exfalso
   refine hc ?_
   have h3:s.getD a 0=c:=(hu _ _).1 (Decidable.not_not.1 h2)
   rw [←h3,J20,J14 h1];rfl
theorem I65 {gf:Fr} {ob:Obs} (s:Str) (a d:Nat) (ha:a < s.length) (hs:s.length≤1000) (h0:B9 ob 810=some (U3 s a d)) :
  AL.Met Tryz.prog 201 [Y4] gf ob [] (fun rs ob'=>rs=[d6 (s.getD a 0)]∧ob'=(810,U3 s (a+1) d)::ob):=by
 refine AL.Met.introH Tryz.func201 (by decide) rfl rfl rfl (fun hH=>?_)
 refine E2 (I90 (l:=[(0,.s Y4)]) (ob':=(810,U3 s a d)::ob) ⟨le1 rfl,trivial⟩ hH (by repeat (first | exact B2 | refine B3 rfl ?_)) (E5 (L:=[(810,_)]) ⟨h0,trivial⟩ D6)) ?_
 refine k2 (A2 (A6 V V (A4 ?_)));refine k1 (k2 (A2 (A3 V V (L1 (B40 s a d (by omega) hs V) V V V ?_))));rintro _ _ ⟨rfl,rfl⟩;refine A3 V V (H0 V V V (H0 V V V (A6 V V (A6 V V (A4 ?_)))))
 rw [decide_eq_true ha]
 refine k1 (k2 (k2 (A2 (A3 V V (A5 (R7 V) V (A4 ?_))))));refine k1 ?_;refine B0 rfl (fun ht=>?_) (fun ht=>?_)
 ·cases ht
 refine k5 (k1 (k2 (A2 (A3 V V (A5 (B4 V) V (A5 (A9 V) V (G4 V V V V (D1 V V V (A5 (B4 V) V (A5 (A9 V) V (H1 (C2 TySz.out V V V V V V) (A4 ?_))))))))))));refine k1 (k2 (A2 (A3 V V (A6 V V (A4 ?_)))));refine k1 (k10 ?_)
 exact G5 (K6 rfl rfl) (by repeat (first | exact B2 | refine B3 rfl ?_ | refine D5 _ ?_)) (E5 (L:=[(810,_)]) ⟨rfl,trivial⟩ (by repeat (first | exact D6 | refine D7 rfl ?_))) ⟨rfl,rfl⟩
theorem B41 {gf:Fr} {ob:Obs} (s:Str) (a d:Nat) (l:List AL.Node) (n:AL.Node) (hl:l.length≤1000) (h0:B9 ob 810=some (U3 s a d)) (h1:B9 ob 811=some (V3 l)) :
  AL.Met Tryz.prog 165 [Y4,(D38 n).s1] gf ob [811] (fun rs ob'=>rs=[N2 l.length]∧ob'=(810,U3 s a d)::(811,V3 (l++[n]))::Obs.forget 811 ob):=by
 refine AL.Met.introH Tryz.func165 (by decide) rfl rfl rfl (fun hH=>?_)
 refine E2 (I91 811 (l:=[(0,.s Y4),(1,.s (D38 n).s1)]) (L:=[(810,_),(811,_)]) ⟨le1 rfl,le1 rfl,trivial⟩ hH (by repeat (first | exact B2 | refine B3 rfl ?_)) ⟨h0,h1,trivial⟩) ?_
 refine k2 (A2 (A5 (q8 V V V) V (A6 V V (A4 ?_))));refine k1 (k2 ?_);refine E2 (I90 (gf':=Fr.forget 811 gf) (l:=[(0,.s Y4),(3,.s (.one (.eref Unit 8 (fun _ j=>(cellsOf B17 n 0 8).getD j (.v undef)) () 0)))]) (ob':=[(810,U3 s a d),(811,V3 l)]++Obs.forget 811 ob) ⟨le1 rfl,le1 rfl,trivial⟩ (A25 hH) (by repeat (first | exact B2 | refine B3 rfl ?_)) (fun _ _ h=>h)) ?_
 refine O2 [10,7] [[],[7],[10,7]] [(7,([811],[9])),(10,([],[]))] [(0,[]),(1,[]),(2,[]),(3,[]),(4,[]),(5,[]),(6,[]),(7,[]),(8,[7]),(9,[7]),(10,[7])] [(0,[7])] (by kernel_rfl) (by kernel_rfl) (E4 V V (by kernel_rfl) V V (B7 V V) (E4 V V (by kernel_rfl) V V (B7 V V) (E4 V V (by kernel_rfl) V V (B4 V) (E4 V V (by kernel_rfl) V V (A9 V) (E4 V V (by kernel_rfl) V V (C4 V V V) (E4 V V (by kernel_rfl) V V (E0 V V) (E4 V V (by kernel_rfl) V V (C1 (c:=B17) (ys:=[n]) (D2 V V V V F1) V V V) (X8 V V (by kernel_rfl) V V (C86 (fun frc hU=>T0 (S6 hU V) V (S6 hU V) (.pure _ _ _ _) (by (simp only [J17,J21];omega)) V)) V (E4 V V (by kernel_rfl) V V (B4 V) (E4 V V (by kernel_rfl) V V (A9 V) (X8 V V (by kernel_rfl) V V (A27 (fun frc hU=>C2 TySz.out (S6 hU V) V (S6 hU V) V V V)) V ?_)))))))))));refine C87 (ks:=[811]) rfl (by kernel_rfl) rfl ?_ ?_
 ·refine M6 V V (by kernel_rfl) V V (B7 V V) ?_;exact B31
 refine k1 (k2 (A2 (A3 V V (A5 (B4 V) V (A5 (A9 V) V (G4 V V V V (A5 (X0 V V) V (A5 (K9 V V (by (simp only [J19,List.length_singleton];omega))) V (A6 V V (A4 ?_))))))))));refine k1 (k10 ?_);refine G5 (K6 rfl rfl) (by repeat (first | exact B2 | refine tail_drop rfl ?_ | refine B3 rfl ?_ | refine J9 _ ?_ | refine D5 _ ?_)) (E5 (L:=[(810,_),(811,_)]) ⟨rfl,rfl,trivial⟩ (by repeat (first | exact D6 | refine D7 rfl ?_ | refine Q6 _ ?_))) ⟨?_,rfl⟩
 rw [J19,List.length_singleton]
 congr 5
 omega
set_option maxHeartbeats 1000000
theorem I11:FnOk Tryz.prog 200 [H78 ⟨0,0,0,0⟩,pByte 97] (fun rs=>rs=[H78 ⟨0,8589934592,0,0⟩]):=by
 refine FnOk.intro Tryz.func200 (by decide) V V V V ?_
 refine k2 (A2 (C6 (x7 2 V V V) V (C6 (J6 4 V) V (A4 ?_))));refine k1 (k2 (A2 (A3 V V (A5 (D45 V V (by decide)) V (A5 (K8 V V (by first | omega | decide) (by decide)) V (G4 V V V V (A3 V V (A5 (A64 V V (by decide)) V (A5 (n_shl V V (by decide)) V (A5 (C77 V V V (fun _=>rfl)) V (A5 (K8 V V (by first | omega | decide) (by decide)) V (H1 (C2 TySz.out V V V V V V) (A4 ?_)))))))))))));refine k1 (k2 (A2 (A5 (P8 V V V) V (H1 (C2 TySz.out V V V V V V) (A4 ?_)))));refine k1 (k10 ?_)
 exact B6 (retc rfl rfl rfl rfl rfl) (by kernel_rfl)
theorem I66 {gf:Fr} {ob:Obs} (s:Str) (a d:Nat) (l:List AL.Node) (z:Set4) (hl:l.length≤1000) (h0:B9 ob 810=some (U3 s a d)) (h1:B9 ob 811=some (V3 l)) :
  AL.Met Tryz.prog 199 [Y4,(H78 z).s1] gf ob [811] (fun rs ob'=>rs=[N2 l.length]∧ob'=(810,U3 s a d)::(811,V3 (l++[⟨1,z,0,0,[]⟩]))::Obs.forget 811 ob):=by
 refine AL.Met.introH Tryz.func199 (by decide) rfl rfl rfl (fun hH=>?_)
 refine E2 (I91 811 (l:=[(0,.s Y4),(1,.s (H78 z).s1)]) (L:=[(810,_),(811,_)]) ⟨le1 rfl,le1 rfl,trivial⟩ hH (by repeat (first | exact B2 | refine B3 rfl ?_)) ⟨h0,h1,trivial⟩) ?_
 refine k2 (A2 (A5 (q8 V V V) V (A6 V V (A4 ?_))));refine k1 (k2 (A2 (A3 V V (A5 (E0 V V) V (A5 (J3 V) V (F19 ((I99 Int 1 E3 7 7 V V)) (L1 (B41 s a d l ⟨1,z,0,0,[]⟩ hl V V) V V V ?_)))))));rintro _ _ ⟨rfl,rfl⟩;refine A6 V V (A4 ?_);refine k1 (k10 ?_)
 exact G5 (K6 rfl rfl) (by repeat (first | exact B2 | refine tail_drop rfl ?_ | refine B3 rfl ?_ | refine J9 _ ?_ | refine D5 _ ?_)) (E5 (L:=[(810,_),(811,_)]) ⟨rfl,rfl,trivial⟩ (by repeat (first | exact D6 | refine D7 rfl ?_ | refine Q6 _ ?_))) ⟨rfl,rfl⟩
theorem I12 {gf:Fr} {ob:Obs} (s:Str) (a d:Nat) (c:UInt8) (h:s[a]?=some c) (hs:s.length≤1000) (h0:B9 ob 810=some (U3 s a d)) :
  AL.Met Tryz.prog 201 [Y4] gf ob [] (fun rs ob'=>rs=[d6 c]∧ob'=(810,U3 s (a+1) d)::ob):=by
 have hlt:=(List.getElem?_eq_some_iff.1 h).1
 have:=I65 (gf:=gf) s a d hlt hs h0
 rwa [show s.getD a 0=c by rw [J20,h];rfl] at this
theorem I67 {gf:Fr} {ob:Obs} (s:Str) (a d:Nat) (c:UInt8) (h:s[a]?=some c) (hs:s.length≤1000) (h0:B9 ob 810=some (U3 s a d)) :
  AL.Met Tryz.prog 121 [Y4,d6 c] gf ob [] (fun rs ob'=>rs=[B13 true]∧ob'=(810,U3 s (a+1) d)::ob):=by
 have hlt:=(List.getElem?_eq_some_iff.1 h).1
 have:=F44 (gf:=gf) s a d c (by omega) hs h0
 rwa [if_pos h,decide_eq_true h] at this
theorem I68 {gf:Fr} {ob:Obs} (s:Str) (a d:Nat) (c:UInt8) (h:¬s[a]?=some c) (ha:a≤s.length) (hs:s.length≤1000) (h0:B9 ob 810=some (U3 s a d)) :
  AL.Met Tryz.prog 121 [Y4,d6 c] gf ob [] (fun rs ob'=>rs=[B13 false]∧ob'=(810,U3 s a d)::ob):=by
 have:=F44 (gf:=gf) s a d c ha hs h0
 rwa [if_neg h,decide_eq_false h] at this
theorem G94 {gf:Fr} {ob:Obs} (s:Str) (a d:Nat) (l:List AL.Node) (h:s[a]?=some 97) (hs:s.length≤1000) (hl:l.length≤1000) (h0:B9 ob 810=some (U3 s a d)) (h1:B9 ob 811=some (V3 l)) :
  AL.Met Tryz.prog 194 [Y4] gf ob [811] (fun rs ob'=>rs=[N2 l.length]∧ob'=(810,U3 s (a+1) d)::(811,V3 (l++[⟨1,⟨0,8589934592,0,0⟩,0,0,[]⟩]))::Obs.forget 811 ob):=by
 refine AL.Met.introH Tryz.func194 (by decide) rfl rfl rfl (fun hH=>?_)
 refine E2 (I91 811 (l:=[(0,.s Y4)]) (L:=[(810,_),(811,_)]) ⟨le1 rfl,trivial⟩ hH (by repeat (first | exact B2 | refine B3 rfl ?_)) ⟨h0,h1,trivial⟩) ?_
 refine k2 (A2 (A6 V V (A4 ?_)));refine k1 (k2 (A2 (A3 V V (A5 (C10 V) V (A3 V V (L1 (I12 s a d 97 h hs V) V V V ?_))))));rintro _ _ ⟨rfl,rfl⟩;refine C9 (I11) V V V ?_;rintro _ rfl;refine L1 (I66 s (a+1) d l ⟨0,8589934592,0,0⟩ hl V V) V V V ?_;rintro _ _ ⟨rfl,rfl⟩;refine A6 V V (A4 ?_);refine k1 (k10 ?_)
 exact G5 (K6 rfl rfl) (by repeat (first | exact B2 | refine tail_drop rfl ?_ | refine B3 rfl ?_ | refine J9 _ ?_ | refine D5 _ ?_)) (E5 (L:=[(810,_),(811,_)]) ⟨rfl,rfl,trivial⟩ (by repeat (first | exact D6 | refine D7 rfl ?_ | refine Q6 _ ?_))) ⟨rfl,rfl⟩
theorem G95 {gf:Fr} {ob:Obs} (s:Str) (a d:Nat) (h:s[a]?=some 43) (hs:s.length≤1000) (h0:B9 ob 810=some (U3 s a d)) :
  AL.Met Tryz.prog 184 [Y4] gf ob [] (fun rs ob'=>rs=[N2 1,N2 (-1),B13 true]∧ob'=(810,U3 s (a+1) d)::ob):=by
 have hlt:=(List.getElem?_eq_some_iff.1 h).1
 refine AL.Met.introH Tryz.func184 (by decide) rfl rfl rfl (fun hH=>?_)
 refine E2 (I90 (l:=[(0,.s Y4)]) (ob':=(810,U3 s a d)::ob) ⟨le1 rfl,trivial⟩ hH (by repeat (first | exact B2 | refine B3 rfl ?_)) (E5 (L:=[(810,_)]) ⟨h0,trivial⟩ D6)) ?_
 refine k2 (A2 (A6 V V (A6 V V (A6 V V (A4 ?_)))));refine k1 (k2 (k3 (k2 (A2 (A3 V V (L1 (I68 s a d 42 (by rw [h];decide) (by omega) hs V) V V V ?_))))));rintro _ _ ⟨rfl,rfl⟩;refine A6 V V (A4 ?_);refine k1 ?_;refine B0 rfl (fun ht=>?_) (fun ht=>?_)
 ·cases ht
 refine k2 (A2 (A3 V V (L1 (I67 s a d 43 h hs V) V V V ?_)));rintro _ _ ⟨rfl,rfl⟩;refine A6 V V (A4 ?_);refine k1 ?_;refine B0 rfl (fun ht=>?_) (fun ht=>?_)
 ·refine k2 (A2 (A6 V V (A6 V V (A6 V V (A4 ?_)))));refine k1 (k10 (k12 (k11 ?_)))
  exact G5 (rets3 rfl rfl rfl rfl) (by repeat (first | exact B2 | refine B3 rfl ?_ | refine D5 _ ?_)) (E5 (L:=[(810,_)]) ⟨rfl,trivial⟩ (by repeat (first | exact D6 | refine D7 rfl ?_))) ⟨rfl,rfl⟩
 ·cases ht
set_option maxHeartbeats 1000000
theorem G18 {gf:Fr} {ob:Obs} (s:Str) (a d:Nat) (l:List AL.Node) (kind:Int) (h:s[a+1]?=some 97) (hs:s.length≤1000) (hl:l.length≤1000) (h0:B9 ob 810=some (U3 s a d)) (h1:B9 ob 811=some (V3 l)) :
  AL.Met Tryz.prog 182 [Y4,N2 kind] gf ob [811] (fun rs ob'=>rs=[N2 l.length]∧ob'=(810,U3 s (a+1) d)::(811,V3 (l++[⟨kind,⟨0,0,0,0⟩,0,0,[]⟩]))::Obs.forget 811 ob):=by
 have hlt:=(List.getElem?_eq_some_iff.1 h).1
 refine AL.Met.introH Tryz.func182 (by decide) rfl rfl rfl (fun hH=>?_)
 refine E2 (I91 811 (l:=[(0,.s Y4),(1,.s (N2 kind))]) (L:=[(810,_),(811,_)]) ⟨le1 rfl,le1 rfl,trivial⟩ hH (by repeat (first | exact B2 | refine B3 rfl ?_)) ⟨h0,h1,trivial⟩) ?_
 refine k2 (A2 (A6 V V (A4 ?_)));refine k1 (k2 (A2 (A3 V V (A5 (B4 V) V (A5 (A9 V) V (G4 V V V V (D1 V V V (A5 (B4 V) V (A5 (A9 V) V (H1 (C2 TySz.out V V V V V V) (A4 ?_)))))))))));refine k1 (k2 (A2 (A3 V V (A3 V V (A5 (J3 V) V (F19 ((I99 Int 1 E3 17 7 V V)) (L1 (B41 s (a+1) d l ⟨kind,⟨0,0,0,0⟩,0,0,[]⟩ hl V V) V V V ?_)))))));rintro _ _ ⟨rfl,rfl⟩;refine A6 V V (A4 ?_);refine k1 (k2 (k2 (A2 (A3 V V (L1 (B40 s (a+1) d (by omega) hs V) V V V ?_)))));rintro _ _ ⟨rfl,rfl⟩;refine A3 V V (H0 V V V (H0 V V V (A6 V V (A6 V V (A4 ?_)))))
 rw [decide_eq_true hlt,show s.getD (a+1) 0=97 by rw [J20,h];rfl]
 refine k1 (k2 (A2 (A3 V V (A3 V V (H9 V V V V (A3 V V (H9 V V V V (C9 (F37 [42,43,63,123] 97) V V V ?_))))))));rintro _ rfl;refine H9 V V V V (A5 (X7 V V) V (A5 (V8 V (rfl) V) V (A4 ?_)));refine k1 ?_;refine B0 rfl (fun ht=>?_) (fun ht=>?_)
 ·exact absurd (A0 ht) (by decide)
 refine k5 (k1 (k2 (A2 (A3 V V (A6 V V (A4 ?_))))));refine k1 (k10 ?_)
 exact G5 (K6 rfl rfl) (by repeat (first | exact B2 | refine tail_drop rfl ?_ | refine B3 rfl ?_ | refine J9 _ ?_ | refine D5 _ ?_)) (E5 (L:=[(810,_),(811,_)]) ⟨rfl,rfl,trivial⟩ (by repeat (first | exact D6 | refine D7 rfl ?_ | refine Q6 _ ?_))) ⟨rfl,rfl⟩
theorem G19 {gf:Fr} {ob:Obs} (s:Str) (a d:Nat) (l:List AL.Node) (kind:Int) (h:a+1=s.length) (hs:s.length≤1000) (hl:l.length≤1000) (h0:B9 ob 810=some (U3 s a d)) (h1:B9 ob 811=some (V3 l)) :
  AL.Met Tryz.prog 182 [Y4,N2 kind] gf ob [811] (fun rs ob'=>rs=[N2 l.length]∧ob'=(810,U3 s (a+1) d)::(811,V3 (l++[⟨kind,⟨0,0,0,0⟩,0,0,[]⟩]))::Obs.forget 811 ob):=by
 refine AL.Met.introH Tryz.func182 (by decide) rfl rfl rfl (fun hH=>?_)
 refine E2 (I91 811 (l:=[(0,.s Y4),(1,.s (N2 kind))]) (L:=[(810,_),(811,_)]) ⟨le1 rfl,le1 rfl,trivial⟩ hH (by repeat (first | exact B2 | refine B3 rfl ?_)) ⟨h0,h1,trivial⟩) ?_
 refine k2 (A2 (A6 V V (A4 ?_)));refine k1 (k2 (A2 (A3 V V (A5 (B4 V) V (A5 (A9 V) V (G4 V V V V (D1 V V V (A5 (B4 V) V (A5 (A9 V) V (H1 (C2 TySz.out V V V V V V) (A4 ?_)))))))))));refine k1 (k2 (A2 (A3 V V (A3 V V (A5 (J3 V) V (F19 ((I99 Int 1 E3 17 7 V V)) (L1 (B41 s (a+1) d l ⟨kind,⟨0,0,0,0⟩,0,0,[]⟩ hl V V) V V V ?_)))))));rintro _ _ ⟨rfl,rfl⟩;refine A6 V V (A4 ?_);refine k1 (k2 (k2 (A2 (A3 V V (L1 (B40 s (a+1) d (by omega) hs V) V V V ?_)))));rintro _ _ ⟨rfl,rfl⟩;refine A3 V V (H0 V V V (H0 V V V (A6 V V (A6 V V (A4 ?_)))))
 rw [decide_eq_false (show ¬a+1 < s.length by omega)]
 refine k1 (k2 (A2 (A3 V V (A3 V V (R2 V V V (by decide) V (R2 V V V (by decide) V (R2 V V V (by decide) V (A5 (C36 V (rfl) V) V (A4 ?_)))))))));refine k1 ?_;refine B0 rfl (fun ht=>?_) (fun ht=>?_)
 ·cases ht
 refine k5 (k1 (k2 (A2 (A3 V V (A6 V V (A4 ?_))))));refine k1 (k10 ?_)
 exact G5 (K6 rfl rfl) (by repeat (first | exact B2 | refine tail_drop rfl ?_ | refine B3 rfl ?_ | refine J9 _ ?_ | refine D5 _ ?_)) (E5 (L:=[(810,_),(811,_)]) ⟨rfl,rfl,trivial⟩ (by repeat (first | exact D6 | refine D7 rfl ?_ | refine Q6 _ ?_))) ⟨rfl,rfl⟩
theorem G96 {gf:Fr} {ob:Obs} :
  AL.Met Tryz.prog 183 [Y4,d6 97] gf ob [] (fun rs ob'=>rs=[.one (.clo 194 [(810,0)] [])]∧ob'=ob):=by
 refine AL.Met.intro Tryz.func183 (by decide) V V V ?_
 refine k2 (A2 (A6 V V (A4 ?_)));refine k1 (k2 (k2 (A2 (A3 V V (A4 ?_)))));refine k1 (k3 (k2 (A2 (A5 (F8 V V) V (A6 V V (A4 ?_))))));refine k1 ?_;refine B0 rfl (fun ht=>?_) (fun ht=>?_)
 ·exact absurd (A0 ht) (by decide)
 refine k2 (A2 (A5 (F8 V V) V (A6 V V (A4 ?_))));refine k1 ?_;refine B0 rfl (fun ht=>?_) (fun ht=>?_)
 ·exact absurd (A0 ht) (by decide)
 refine k2 (A2 (A5 (F8 V V) V (A6 V V (A4 ?_))));refine k1 ?_;refine B0 rfl (fun ht=>?_) (fun ht=>?_)
 ·exact absurd (A0 ht) (by decide)
 refine k2 (A2 (A5 (F8 V V) V (A6 V V (A4 ?_))));refine k1 ?_;refine B0 rfl (fun ht=>?_) (fun ht=>?_)
 ·exact absurd (A0 ht) (by decide)
 refine k2 (k2 (A2 (A5 (F8 V V) V (A6 V V (A4 ?_)))));refine k1 ?_;refine B0 rfl (fun ht=>?_) (fun ht=>?_)
 ·exact absurd (A0 ht) (by decide)
 refine k2 (A2 (A5 (F8 V V) V (A6 V V (A4 ?_))));refine k1 ?_;refine B0 rfl (fun ht=>?_) (fun ht=>?_)
 ·exact absurd (A0 ht) (by decide)
 refine k2 (A2 (A5 (F8 V V) V (A6 V V (A4 ?_))));refine k1 ?_;refine B0 rfl (fun ht=>?_) (fun ht=>?_)
 ·exact absurd (A0 ht) (by decide)
 skip
 refine A2 (A5 (F8 V V) V (A6 V V (A4 ?_)));refine k1 ?_;refine B0 rfl (fun ht=>?_) (fun ht=>?_)
 ·exact absurd (A0 ht) (by decide)
 refine k5 (k2 (A2 (A3 V V (A5 (A11 V V) V (A6 V V (A4 ?_))))));refine k1 (k10 ?_)
 exact G5 (K6 rfl rfl) (by repeat (first | exact B2 | refine B3 rfl ?_ | refine D5 _ ?_)) (fun _ _ h=>h) ⟨rfl,rfl⟩
set_option maxHeartbeats 1000000
theorem E02 {gf:Fr} {ob:Obs} (s:Str) (a d:Nat) (l:List AL.Node) (h:s[a+1]?=some 97) (hs:s.length≤1000) (hl:l.length≤900) (h0:B9 ob 810=some (U3 s a d)) (h1:B9 ob 811=some (V3 l)) :
  AL.Met Tryz.prog 164 [Y4,d6 94] gf ob [811] (fun rs ob'=>rs=[N2 l.length]∧ob'=(810,U3 s (a+1) d)::(811,V3 (l++[⟨2,⟨0,0,0,0⟩,0,0,[]⟩]))::Obs.forget 811 ob):=by
 refine AL.Met.introH Tryz.func164 (by decide) rfl rfl rfl (fun hH=>?_)
 refine E2 (I91 811 (l:=[(0,.s Y4),(1,.s (d6 94))]) (L:=[(810,_),(811,_)]) ⟨le1 rfl,le1 rfl,trivial⟩ hH (by repeat (first | exact B2 | refine B3 rfl ?_)) ⟨h0,h1,trivial⟩) ?_
 refine k2 (A2 (A6 V V (A4 ?_)));refine k1 (k2 (k2 (A2 (A3 V V (A4 ?_)))));refine k1 (k3 (k2 (A2 (A5 (F8 V V) V (A6 V V (A4 ?_))))));refine k1 ?_;refine B0 rfl (fun ht=>?_) (fun ht=>?_)
 ·refine k2 (A2 (A3 V V (L1 (G18 s a d l 2 h hs (by omega) V V) V V V ?_)));rintro _ _ ⟨rfl,rfl⟩;refine A6 V V (A4 ?_);refine k1 (k10 (k12 (k11 ?_)))
  exact G5 (K6 rfl rfl) (by repeat (first | exact B2 | refine tail_drop rfl ?_ | refine B3 rfl ?_ | refine J9 _ ?_ | refine D5 _ ?_)) (E5 (L:=[(810,_),(811,_)]) ⟨rfl,rfl,trivial⟩ (by repeat (first | exact D6 | refine D7 rfl ?_ | refine Q6 _ ?_))) ⟨rfl,rfl⟩
 ·cases ht
theorem F45 {gf:Fr} {ob:Obs} (s:Str) (a d:Nat) (l:List AL.Node) (h:a+1=s.length) (hs:s.length≤1000) (hl:l.length≤900) (h0:B9 ob 810=some (U3 s a d)) (h1:B9 ob 811=some (V3 l)) :
  AL.Met Tryz.prog 164 [Y4,d6 36] gf ob [811] (fun rs ob'=>rs=[N2 l.length]∧ob'=(810,U3 s (a+1) d)::(811,V3 (l++[⟨3,⟨0,0,0,0⟩,0,0,[]⟩]))::Obs.forget 811 ob):=by
 refine AL.Met.introH Tryz.func164 (by decide) rfl rfl rfl (fun hH=>?_)
 refine E2 (I91 811 (l:=[(0,.s Y4),(1,.s (d6 36))]) (L:=[(810,_),(811,_)]) ⟨le1 rfl,le1 rfl,trivial⟩ hH (by repeat (first | exact B2 | refine B3 rfl ?_)) ⟨h0,h1,trivial⟩) ?_
 refine k2 (A2 (A6 V V (A4 ?_)));refine k1 (k2 (k2 (A2 (A3 V V (A4 ?_)))));refine k1 (k3 (k2 (A2 (A5 (F8 V V) V (A6 V V (A4 ?_))))));refine k1 ?_;refine B0 rfl (fun ht=>?_) (fun ht=>?_)
 ·exact absurd (A0 ht) (by decide)
 refine k2 (A2 (A5 (F8 V V) V (A6 V V (A4 ?_))));refine k1 ?_;refine B0 rfl (fun ht=>?_) (fun ht=>?_)
 ·refine k2 (A2 (A3 V V (L1 (G19 s a d l 3 h hs (by omega) V V) V V V ?_)));rintro _ _ ⟨rfl,rfl⟩;refine A6 V V (A4 ?_);refine k1 (k10 (k12 (k11 ?_)))
  exact G5 (K6 rfl rfl) (by repeat (first | exact B2 | refine tail_drop rfl ?_ | refine B3 rfl ?_ | refine J9 _ ?_ | refine D5 _ ?_)) (E5 (L:=[(810,_),(811,_)]) ⟨rfl,rfl,trivial⟩ (by repeat (first | exact D6 | refine D7 rfl ?_ | refine Q6 _ ?_))) ⟨rfl,rfl⟩
 ·cases ht
theorem G97 {gf:Fr} {ob:Obs} (s:Str) (a d:Nat) (l:List AL.Node) (h:s[a]?=some 97) (h2:s[a+1]?=some 43) (hs:s.length≤1000) (hl:l.length≤900) (h0:B9 ob 810=some (U3 s a d)) (h1:B9 ob 811=some (V3 l)) :
  AL.Met Tryz.prog 164 [Y4,d6 97] gf ob [811] (fun rs ob'=>rs=[N2 (l.length+1)]∧ob'=(810,U3 s (a+2) d)::(811,V3 (l++[⟨1,⟨0,8589934592,0,0⟩,0,0,[]⟩]++[⟨6,⟨0,0,0,0⟩,1,-1,[(l.length:Int)]⟩]))::Obs.forget 811 ob):=by
 have hl1:(((l++[⟨1,⟨0,8589934592,0,0⟩,0,0,[]⟩]:List AL.Node)).length:Int)=(l.length:Int)+1:=by rw [J19,List.length_singleton];rfl
 have hll:((l++[⟨1,⟨0,8589934592,0,0⟩,0,0,[]⟩]:List AL.Node)).length≤1000:=by rw [J19,List.length_singleton];omega
 refine AL.Met.introH Tryz.func164 (by decide) rfl rfl rfl (fun hH=>?_)
 refine E2 (I91 811 (l:=[(0,.s Y4),(1,.s (d6 97))]) (L:=[(810,_),(811,_)]) ⟨le1 rfl,le1 rfl,trivial⟩ hH (by repeat (first | exact B2 | refine B3 rfl ?_)) ⟨h0,h1,trivial⟩) ?_
 refine k2 (A2 (A6 V V (A4 ?_)));refine k1 (k2 (k2 (A2 (A3 V V (A4 ?_)))));refine k1 (k3 (k2 (A2 (A5 (F8 V V) V (A6 V V (A4 ?_))))));refine k1 ?_;refine B0 rfl (fun ht=>?_) (fun ht=>?_)
 ·exact absurd (A0 ht) (by decide)
 refine k2 (A2 (A5 (F8 V V) V (A6 V V (A4 ?_))));refine k1 ?_;refine B0 rfl (fun ht=>?_) (fun ht=>?_)
 ·exact absurd (A0 ht) (by decide)
 refine k5 (k2 (A2 (A3 V V (A3 V V (L1 (G96) V V V ?_)))));rintro _ _ ⟨rfl,rfl⟩;refine A6 V V (A4 ?_);refine k1 (k2 (A2 (A3 V V (B28 (G94 s a d l h hs (by omega) V V) V V V V ?_))));rintro _ _ ⟨rfl,rfl⟩;refine A6 V V (A4 ?_);refine k1 (k2 (A2 (A3 V V (L1 (G95 s (a+1) d h2 hs V) V V V ?_))));rintro _ _ ⟨rfl,rfl⟩;refine A3 V V (H0 V V V (H0 V V V (H0 V V V (A6 V V (A6 V V (A6 V V (A4 ?_)))))));refine k1 (k2 (k2 (A2 (A3 V V (A5 (R7 V) V (A4 ?_))))));refine k1 ?_;refine B0 rfl (fun ht=>?_) (fun ht=>?_)
 ·cases ht
 refine k5 (k1 (k2 (A2 (A3 V V (A3 V V (A3 V V (A3 V V (A5 (C1 (c:=E3) (ys:=[(l.length:Int)]) (D2 V V V V F1) V V V) V (A5 (J3 V) V (L1 (B41 s (a+2) d (l++[⟨1,⟨0,8589934592,0,0⟩,0,0,[]⟩]) ⟨6,⟨0,0,0,0⟩,1,-1,[(l.length:Int)]⟩ hll V V) V V V ?_))))))))));rintro _ _ ⟨rfl,rfl⟩;refine A6 V V (A4 ?_)
 rw [hl1]
 refine k1 (k10 ?_)
 exact G5 (K6 rfl rfl) (by repeat (first | exact B2 | refine tail_drop rfl ?_ | refine B3 rfl ?_ | refine J9 _ ?_ | refine D5 _ ?_)) (E5 (L:=[(810,_),(811,_)]) ⟨rfl,rfl,trivial⟩ (by repeat (first | exact D6 | refine D7 rfl ?_ | refine Q6 _ ?_))) ⟨rfl,rfl⟩
set_option maxHeartbeats 1000000
theorem G98 {gf:Fr} {ob:Obs} (s:Str) (a d:Nat) (l:List AL.Node) (kind:Int) (kids:List Int) (h2:2≤kids.length) (hl:l.length≤1000) (h0:B9 ob 810=some (U3 s a d)) (h1:B9 ob 811=some (V3 l)) :
  AL.Met Tryz.prog 122 [Y4,N2 kind,.one (.p (.list Int 1 E3 kids))] gf ob [811] (fun rs ob'=>rs=[N2 l.length]∧ob'=(810,U3 s a d)::(811,V3 (l++[⟨kind,⟨0,0,0,0⟩,0,0,kids⟩]))::Obs.forget 811 ob):=by
 refine AL.Met.introH Tryz.func122 (by decide) rfl rfl rfl (fun hH=>?_)
 refine E2 (I91 811 (l:=[(0,.s Y4),(1,.s (N2 kind)),(2,C7 Int 1 E3 kids)]) (L:=[(810,_),(811,_)]) ⟨le1 rfl,le1 rfl,le1 rfl,trivial⟩ hH (by repeat (first | exact B2 | refine B3 rfl ?_)) ⟨h0,h1,trivial⟩) ?_
 refine k2 (A2 (A6 V V (A4 ?_)));refine k1 (k2 (k2 (A2 (A3 V V (E1 V V (A4 ?_))))));refine k1 (k3 (k2 (A2 (A5 (F8 V V) V (A6 V V (A4 ?_))))));refine k1 ?_;refine B0 rfl (fun ht=>?_) (fun ht=>?_)
 ·have:=A0 ht
  omega
 refine k2 (A2 (A5 (F8 V V) V (A6 V V (A4 ?_))));refine k1 ?_;refine B0 rfl (fun ht=>?_) (fun ht=>?_)
 ·have:=A0 ht
  omega
 refine k5 (k2 (A2 (A3 V V (A3 V V (A3 V V (A5 (J3 V) V (L1 (B41 s a d l ⟨kind,⟨0,0,0,0⟩,0,0,kids⟩ hl V V) V V V ?_)))))));rintro _ _ ⟨rfl,rfl⟩;refine A6 V V (A4 ?_);refine k1 (k10 ?_)
 exact G5 (K6 rfl rfl) (by repeat (first | exact B2 | refine tail_drop rfl ?_ | refine B3 rfl ?_ | refine J9 _ ?_ | refine D5 _ ?_)) (E5 (L:=[(810,_),(811,_)]) ⟨rfl,rfl,trivial⟩ (by repeat (first | exact D6 | refine D7 rfl ?_ | refine Q6 _ ?_))) ⟨rfl,rfl⟩
theorem G99 {gf:Fr} {ob:Obs} (kind x:Int) :
  AL.Met Tryz.prog 122 [Y4,N2 kind,.one (.p (.list Int 1 E3 [x]))] gf ob [] (fun rs ob'=>rs=[N2 x]∧ob'=ob):=by
 have hv:[x][Int.toNat 0]?=some x:=rfl
 refine AL.Met.intro Tryz.func122 (by decide) V V V ?_
 refine k2 (A2 (A6 V V (A4 ?_)));refine k1 (k2 (k2 (A2 (A3 V V (E1 V V (A4 ?_))))));refine k1 (k3 (k2 (A2 (A5 (F8 V V) V (A6 V V (A4 ?_))))));refine k1 ?_;refine B0 rfl (fun ht=>?_) (fun ht=>?_)
 ·exact absurd (A0 ht) (by simp)
 refine k2 (A2 (A5 (F8 V V) V (A6 V V (A4 ?_))));refine k1 ?_;refine B0 rfl (fun ht=>?_) (fun ht=>?_)
 ·refine k2 (A2 (A3 V V (A5 (A8 V (.pure _ _ _ _) V (by omega) hv) V (A5 (A7 V V) V (A6 V V (A4 ?_))))));refine k1 (k10 (k12 (k11 ?_)))
  exact G5 (K6 rfl rfl) (by repeat (first | exact B2 | refine B3 rfl ?_ | refine D5 _ ?_)) (fun _ _ h=>h) ⟨rfl,rfl⟩
 ·exact absurd rfl (A1 ht)
set_option maxHeartbeats 1000000
abbrev pat4:Str:=[94,97,43,36]
abbrev ndS:AL.Node:=⟨2,⟨0,0,0,0⟩,0,0,[]⟩
abbrev ndA:AL.Node:=⟨1,⟨0,8589934592,0,0⟩,0,0,[]⟩
abbrev ndR:AL.Node:=⟨6,⟨0,0,0,0⟩,1,-1,[1]⟩
abbrev ndE:AL.Node:=⟨3,⟨0,0,0,0⟩,0,0,[]⟩
abbrev ndC:AL.Node:=⟨4,⟨0,0,0,0⟩,0,0,[0,2,3]⟩
def atI:Nat→Nat
 | 0=>0
 | 1=>1
 | 2=>3
 | _=>4
def H00:Nat→List AL.Node
 | 0=>[]
 | 1=>[ndS]
 | 2=>[ndS,ndA,ndR]
 | _=>[ndS,ndA,ndR,ndE]
def kidI:Nat→Int
 | 0=>0
 | 1=>2
 | _=>3
def G20:Nat→List Int
 | 0=>[]
 | 1=>[0]
 | 2=>[0,2]
 | _=>[0,2,3]
theorem three {p:Nat→Prop} (h0:p 0) (h1:p 1) (h2:p 2):∀i,i < 3→p i
 | 0,_=>h0
 | 1,_=>h1
 | 2,_=>h2
theorem H01:∀i,i < 3→G20 i++[kidI i]=G20 (i+1):=three rfl rfl rfl
theorem I13:∀i,i < 3→(G20 i).length < 3:=three (by decide) (by decide) (by decide)
theorem atI_len:∀i,i < 3→atI i < pat4.length∧pat4.getD (atI i) 0≠124∧pat4.getD (atI i) 0≠41:=three (by decide) (by decide) (by decide)
theorem H02 {gf:Fr} {ob:Obs} (d:Nat) (i:Nat) (hi:i < 3) (h0:B9 ob 810=some (U3 pat4 (atI i) d)) (h1:B9 ob 811=some (V3 (H00 i))) :
  AL.Met Tryz.prog 164 [Y4,d6 (pat4.getD (atI i) 0)] gf ob [811] (fun rs ob'=>rs=[N2 (kidI i)]∧ob'=(810,U3 pat4 (atI (i+1)) d)::(811,V3 (H00 (i+1)))::Obs.forget 811 ob):=by
 match i,hi with
 | 0,_=>exact E02 pat4 0 d [] rfl (by decide) (by decide) h0 h1
 | 1,_=>exact G97 pat4 1 d [ndS] rfl rfl (by decide) (by decide) h0 h1
 | 2,_=>exact F45 pat4 3 d [ndS,ndA,ndR] rfl (by decide) (by decide) h0 h1
theorem E03 (k q:Nat) (o:Ob):(o.forget q).forget k=(o.forget k).forget q:=by
 cases o with
 | box l=>simp only [Ob.forget,J49];congr 1;exact List.map_congr_left fun t _=>TC.forget_comm k q t
 | tbx e l=>simp only [Ob.forget,J49];congr 1;exact List.map_congr_left fun t _=>TC.forget_comm k q t
 | tarr n m l=>simp only [Ob.forget,J49];congr 1;exact List.map_congr_left fun t _=>TC.forget_comm k q t
 | growT e n m l=>simp only [Ob.forget,J49];congr 1;exact List.map_congr_left fun t _=>TC.forget_comm k q t
 | growA e α ec c xs p l=>simp only [Ob.forget,J49];congr 1;exact List.map_congr_left fun t _=>TC.forget_comm k q t
 | _=>rfl
theorem B14 (k q:Nat) (ob:Obs):Obs.forget k (Obs.forget q ob)=Obs.forget q (Obs.forget k ob):=by
 simp only [Obs.forget,J49,Function.comp_def,E03 k q]
theorem E04 {K:List Nat} {T ob:Obs} (j k:Nat) (h:∀i x,M4 K i=false→B9 (Obs.forget j (Obs.forget k ob)) i=some x→B9 T i=some x) :
  ∀i x,M4 K i=false→B9 (Obs.forget j (Obs.forget k ob)) i=some x→B9 (Obs.forget k T) i=some x:=by
 rw [B14] at h ⊢
 exact Q6 k h
theorem I69 {gf:Fr} {ob:Obs} (d:Nat) (hf:B9 ob 812=none) (h0:B9 ob 810=some (U3 pat4 0 d)) (h1:B9 ob 811=some (V3 [])) :
  AL.Met Tryz.prog 120 [Y4] gf ob [811,812] (fun rs ob'=>rs=[N2 4]∧ob'=(810,U3 pat4 4 d)::(811,V3 [ndS,ndA,ndR,ndE,ndC])::(812,.spare 3 1 3)::Obs.forget 812 (Obs.forget 811 ob)):=by
 refine AL.Met.introH Tryz.func120 (by decide) rfl rfl rfl (fun hH=>?_)
 refine E2 (I91 811 (l:=[(0,.s Y4)]) (L:=[(810,_),(811,_)]) ⟨le1 rfl,trivial⟩ hH (by repeat (first | exact B2 | refine B3 rfl ?_)) ⟨h0,h1,trivial⟩) ?_
 have hf2:B9 ([(810,U3 pat4 0 d),(811,V3 [])]++Obs.forget 811 ob) 812=none:=by
  show B9 (Obs.forget 811 ob) 812=none
  rw [J7,hf];rfl
 refine k2 (A2 (A6 V V (A4 ?_)));refine k1 (k2 (A2 (A6 V V (A4 ?_))));refine E2 (J10 812 Int 1 E3 3 (t:=3) V hf2 V) ?_
 refine k3 ?_;refine C5 (X:=Nat) (fun i=>([(0,.s Y4),(3,.s (.one (.buf 812 Int 1 E3 (G20 i))))]++D3 [811,812] gf,[(810,U3 pat4 (atI i) d),(811,V3 (H00 i)),(812,.spare (G20 i).length 1 3)]++Obs.forget 812 (Obs.forget 811 ob))) (fun i=>i≤3) (fun i=>3 - i) 0 (Nat.zero_le _) ?_ ?_
 ·exact I90 ⟨le1 rfl,le1 rfl,trivial⟩ (F0 hH) (by repeat (first | exact B2 | refine B3 rfl ?_ | refine D5 _ ?_)) (E5 (L:=[(810,_),(811,_),(812,_)]) ⟨rfl,rfl,rfl,trivial⟩ (by repeat (first | exact D6 | refine D7 rfl ?_ | refine Q6 _ ?_)))
 intro i hi
 dsimp only at hi ⊢
 have hat:atI i≤pat4.length:=by
  match i,hi with
  | 0,_=>decide
  | 1,_=>decide
  | 2,_=>decide
  | 3,_=>decide
 refine k3 (k2 (A2 (A3 V V (L1 (B40 pat4 (atI i) d hat (by decide) V) V V V ?_))));rintro _ _ ⟨rfl,rfl⟩;refine A3 V V (H0 V V V (H0 V V V (A6 V V (A6 V V (A4 ?_)))));refine k1 (k2 (k2 (A2 (A3 V V (A5 (R7 V) V (A3 V V (B1 V V V V (fun hg=>by rw [hg];exact B7 V V) ?_)))))));refine B1 V V V V (fun hg=>by rw [hg];exact F8 V V) ?_;refine I5 V V ?_;refine A3 V V (B1 V V V V (fun hg=>by rw [hg];exact B7 V V) ?_);refine B1 V V V V (fun hg=>by rw [hg];exact F8 V V) ?_;refine I5 V V ?_;refine A4 ?_;refine k1 ?_
 by_cases h3:i=3
 ·subst h3
  refine B0 rfl (fun ht=>?_) (fun ht=>?_)
  ·refine k2 (E2 (Sees.forget 812) ?_)
   refine A2 (A3 V V (A3 V V (L1 (G98 pat4 4 d [ndS,ndA,ndR,ndE] 4 [0,2,3] (by decide) (by decide) V V) V V V ?_)));rintro _ _ ⟨rfl,rfl⟩;refine A6 V V (A4 ?_);refine k1 (k10 (k11 (k12 (k11 (k12 ?_)))))
   exact G5 (K6 rfl rfl) (by repeat (first | exact B2 | refine tail_drop rfl ?_ | refine B3 rfl ?_ | refine H3 _ rfl ?_)) (E5 (L:=[(810,_),(811,_),(812,_)]) ⟨rfl,rfl,rfl,trivial⟩ (by repeat (first | exact D6 | refine D7 rfl ?_ | refine Q6 _ ?_ | refine E04 _ _ ?_))) ⟨rfl,rfl⟩
  ·cases ht
 have hi3:i < 3:=by omega
 obtain ⟨ha1,ha2,ha3⟩:=atI_len i hi3
 refine B0 rfl (fun ht=>?_) (fun ht=>?_)
 ·exfalso
  rw [E14,E14,decide_eq_true ha1,decide_eq_false (fun h=>ha2 (UInt8.toNat_inj.1 (by have e:UInt8.toNat 124=124:=rfl;omega))),decide_eq_false (fun h=>ha3 (UInt8.toNat_inj.1 (by have e:UInt8.toNat 41=41:=rfl;omega)))] at ht
  cases ht
 refine k5 (k1 ?_)
 have hkl:=I13 i hi3
 refine A2 (A3 V V (A3 V V (A3 V V (L1 (H02 d i hi3 V V) V V V ?_))));rintro _ _ ⟨rfl,rfl⟩;refine A5 (C1 (c:=E3) (ys:=[kidI i]) (D2 V V V V F1) V V V) V (C6 (G9 V V V (.pure _ _ _ _) (by (simp only [J17,J21];omega)) V) V (A6 V V (A4 ?_)));refine k4 (k1 ?_);refine ⟨i+1,by omega,by omega,?_⟩
 rw [←H01 i hi3]
 exact I90 ⟨le1 rfl,le1 rfl,trivial⟩ (F0 hH) (by repeat (first | exact B2 | refine B3 rfl ?_ | refine H3 _ rfl ?_)) (E5 (L:=[(810,_),(811,_),(812,_)]) ⟨rfl,rfl,rfl,trivial⟩ (by repeat (first | exact D6 | refine D7 rfl ?_ | refine Q6 _ ?_ | refine E04 _ _ ?_)))
theorem I70 {gf:Fr} {ob:Obs} (d:Nat) (hf:B9 ob 812=none) (h0:B9 ob 810=some (U3 pat4 0 d)) (h1:B9 ob 811=some (V3 [])) :
  AL.Met Tryz.prog 93 [Y4] gf ob [811,812] (fun rs ob'=>rs=[N2 4]∧ob'=(810,U3 pat4 4 d)::(811,V3 [ndS,ndA,ndR,ndE,ndC])::(812,.spare 3 1 3)::Obs.forget 812 (Obs.forget 811 ob)):=by
 refine AL.Met.introH Tryz.func93 (by decide) rfl rfl rfl (fun hH=>?_)
 refine k2 (A2 (A6 V V (A4 ?_)));refine k1 (k2 (A2 (A3 V V (L1 (I69 d hf h0 h1) V V V ?_))));rintro _ _ ⟨rfl,rfl⟩;refine A5 (C1 (c:=E3) (ys:=[(4:Int)]) (D2 V V V V F1) V V V) V (A6 V V (A4 ?_));refine k1 (k2 (k3 ?_));refine C5 (X:=Nat) (fun _=>([(0,.s Y4),(3,C7 Int 1 E3 [4])]++D3 [811,812] gf,[(810,U3 pat4 4 d),(811,V3 [ndS,ndA,ndR,ndE,ndC]),(812,.spare 3 1 3)]++Obs.forget 812 (Obs.forget 811 ob))) (fun _=>True) (fun i=>i) 0 trivial ?_ ?_
 ·exact I90 ⟨le1 rfl,le1 rfl,trivial⟩ (F0 hH) (by repeat (first | exact B2 | refine B3 rfl ?_ | refine D5 _ ?_)) (E5 (L:=[(810,_),(811,_),(812,_)]) ⟨rfl,rfl,rfl,trivial⟩ (by repeat (first | exact D6 | refine D7 rfl ?_)))
 intro i _
 dsimp only
 refine k2 (k2 (A2 (A3 V V (L1 (F44 pat4 4 d 124 (by decide) (by decide) V) V V V ?_))));rintro _ _ ⟨rfl,rfl⟩;refine A4 ?_;refine k1 ?_;refine B0 rfl (fun ht=>?_) (fun ht=>?_)
 ·cases ht
 refine k6 (k2 (A2 (A3 V V (A3 V V (L1 (G99 5 4) V V V ?_)))));rintro _ _ ⟨rfl,rfl⟩;refine A6 V V (A4 ?_);refine k1 (k10 ?_)
 exact G5 (K6 rfl rfl) (by repeat (first | exact B2 | refine tail_drop rfl ?_ | refine B3 rfl ?_ | refine H3 _ rfl ?_)) (E5 (L:=[(810,_),(811,_),(812,_)]) ⟨rfl,rfl,rfl,trivial⟩ (by repeat (first | exact D6 | refine D7 rfl ?_ | refine Q6 _ ?_ | refine E04 _ _ ?_))) ⟨rfl,rfl⟩
set_option maxHeartbeats 1000000
theorem G21:IdleFn Tryz.prog 92 2:=by
 intro vs w hl
 obtain ⟨x,y,rfl⟩:∃x y,vs=[x,y]:=by
  match vs,hl with
  | [x,y],_=>exact ⟨x,y,rfl⟩
 refine ⟨M9 ⟨_,rfl,rfl,rfl⟩,?_⟩
 have hta:(Instr.typeAssert .nilIface 20 27 true).run Tryz.prog w=.ok (.tuple #[.int .i64 0,.bool false]) w:=by
  simp only [Instr.typeAssert]
  rfl
 refine callsDIn_of_wpSIn Tryz.func92 rfl trivial fun c₀ cs hu=>?_
 simp only [Tryz.ntmps92,List.size_toArray,J17,J21,Nat.reduceAdd,Nat.reduceSub,Array.replicate_succ,Array.replicate_zero,List.push_toArray,List.append_toArray,J52,J36]
 apply wpSIn_seq
 apply wpSIn_region
 simp [wpOpsSIn,go_sem,recoverD,hu,Exit.thenS,hta]
 apply wpSIn_seq
 apply wpSIn_region
 simp [wpOpsSIn,go_sem,Exit.thenS]
 refine wpSIn_cond (t:=false) (by simp [Act.eval]) ?_
 simp only [Bool.false_eq_true,if_false]
 refine wpSIn_of_wpIn rfl (wpIn_skip ?_)
 cases c₀
 simp_all [bodyPostS,results,Tryz.results92]
theorem H58 {P:Program} {fr:Fr} {ob:Obs} {S:Ctx} {G:Gh} {a:Act} {w:World} (h:Sim P S fr ob G a w) {t:Tmp} {k:Nat} {tt:TypeId} {ts:List TC} {c:Cell} [hty:TyOne P tt] (ht:x2 fr t=some (.s (.one (.ref k 0)))) (hk:B9 ob k=some (.box ts)) (h0:ts[0]?=some (.p c)) :
  ∃b z,a.tmps.getD t undef=.pointer (some ⟨b,0,none⟩)∧(loadVar tt ⟨b,0,none⟩).run P w=.ok z w∧(PV.one c).rep (F9 (Mut S ob G) w) z:=by
 obtain ⟨b,hg,hu⟩:=h.slot ht
 obtain ⟨b',vs,tt',hg',hh,ha⟩:=h.box hk
 rw [hg] at hg';cases hg'
 obtain ⟨z,hz1,hz2⟩:=ha.get 0 _ h0
 exact ⟨b,z,hu,T7 (ht:=hty) (O1 hh (by simpa using hz1)),hz2⟩
theorem retcc {P:Program} {fn:Func} {fr:Fr} {ob:Obs} {t t':Tmp} {k k':Nat} {tt tt':TypeId} {ts ts':List TC} {c c':Cell} [TyOne P tt] [TyOne P tt'] (hr:fn.results=#[.cell t tt,.cell t' tt']) (ht:x2 fr t=some (.s (.one (.ref k 0)))) (hk:B9 ob k=some (.box ts)) (h0:ts[0]?=some (.p c))
  (ht':x2 fr t'=some (.s (.one (.ref k' 0)))) (hk':B9 ob k'=some (.box ts')) (h0':ts'[0]?=some (.p c')):RetOk P fn fr ob [.one c,.one c']:=by
 unfold RetOk
 intro S G a w h
 obtain ⟨b,z,h1,h2,h3⟩:=H58 h (tt:=tt) ht hk h0
 obtain ⟨b',z',h1',h2',h3'⟩:=H58 h (tt:=tt') ht' hk' h0'
 rw [Array.getD_eq_getD_getElem?] at h1 h1'
 exact ⟨_,by simp [results,hr,h1,h1',asAddr,h2,h2'],[_,_],rfl,h3,h3',trivial⟩
abbrev nodes5:List AL.Node:=[ndS,ndA,ndR,ndE,ndC]
theorem I14:FnOk Tryz.prog 65 [L2 pat4] (fun rs=>rs=[B59 nodes5,E6 0]):=by
 refine FnOk.intro Tryz.func65 (by decide) V V V V ?_
 refine k2 (A2 (C6 (J6 2 V) V (C6 (J6 3 V) V (A4 ?_))));refine k1 (k2 (k2 (A2 (A3 V V (A5 (J2 V) V (A5 (L7 V V) V (A4 ?_)))))));refine k1 ?_;refine B0 rfl (fun ht=>?_) (fun ht=>?_)
 ·exact absurd (A0 ht) (by decide)
 refine k5 (k1 ?_)
 refine c_defer (caps:=[.tmp 2,.tmp 3]) (nc:=[(2,0),(3,0)]) V V G21 ?_
 refine k2 (A2 (A3 V V (A5 (J3 V) V (C6 (x7 810 V V V) V (A6 V V (A4 ?_))))));refine E2 (I95 811 AL.Node 8 B17 178 (kb:=810) (o:=3) V V V) ?_
 refine k2 (A2 (A3 V V (L1 (I70 0 V V V) V V V ?_)));rintro _ _ ⟨rfl,rfl⟩;refine A4 ?_;refine k1 (k2 (k2 (A2 (A3 V V (A5 (B4 V) V (A5 (A9 V) V (G4 V V V V (A3 V V (A5 (J2 V) V (E7 V V V (A4 ?_)))))))))));refine k1 ?_;refine B0 rfl (fun ht=>?_) (fun ht=>?_)
 ·cases ht
 refine k5 (k1 (k2 (A2 (A3 V V (A5 (B4 V) V (A5 (A9 V) V (G4 V V V V (H1 (C2 TySz.out V V V V V V) (H1 (C2 TySz.out V V V V V V) (A4 ?_))))))))));refine k1 (E2 (Sees.freezeG (k:=811) (α:=AL.Node) (ec:=8) (c:=B17) (xs:=nodes5) (e:=178) rfl rfl) ?_)
 refine k10 ?_
 exact B6 (rs:=[B59 nodes5,E6 0]) (retcc rfl rfl rfl rfl rfl rfl rfl) rfl
set_option maxHeartbeats 1000000
theorem H03:FnOk Tryz.prog 185 [D38 ndR] (fun rs=>rs=[H8 true]):=by
 refine FnOk.intro Tryz.func185 (by decide) V V V V ?_
 refine k2 (A2 (A5 (q8 V V V) V (A6 V V (A4 ?_))));refine k1 (k2 (A2 (A5 (B8 V) V (A5 (A7 V V) V (A5 (X7 V V) V (A3 V V (B1 V V V V (fun hg=>by rw [hg];exact B8 V) ?_)))))));refine B1 V V V V (fun hg=>by rw [hg];exact A7 V V) ?_;refine B1 V V V V (fun hg=>by rw [hg];exact B08 V V) ?_;refine I5 V V ?_;refine A3 V V (B1 V V V V (fun hg=>by rw [hg];exact B8 V) ?_);refine B1 V V V V (fun hg=>by rw [hg];exact A7 V V) ?_;refine B1 V V V V (fun hg=>by rw [hg];exact F8 V V) ?_;refine B1 V V V V (fun hg=>by rw [hg];exact B7 V V) ?_;refine L6 V V V (.gd (.val _)) V (fun hg=>by obtain ⟨hg1,hg2⟩:=K0 hg;(try rw [hg1]);(try rw [hg2]);exact B8 V) ?_;refine L6 V V V (.gd (.val _)) V (fun hg=>by obtain ⟨hg1,hg2⟩:=K0 hg;(try rw [hg1]);(try rw [hg2]);exact A7 V V) ?_;refine L6 V V V (.gd (.val _)) V (fun hg=>by obtain ⟨hg1,hg2⟩:=K0 hg;(try rw [hg1]);(try rw [hg2]);exact B8 V) ?_;refine L6 V V V (.gd (.val _)) V (fun hg=>by obtain ⟨hg1,hg2⟩:=K0 hg;(try rw [hg1]);(try rw [hg2]);exact A7 V V) ?_;refine L6 V V V (.gd (.val _)) V (fun hg=>by obtain ⟨hg1,hg2⟩:=K0 hg;(try rw [hg1]);(try rw [hg2]);exact X7 V V) ?_;refine L6 V V V (.gd (.val _)) V (fun hg=>by obtain ⟨hg1,hg2⟩:=K0 hg;(try rw [hg1]);(try rw [hg2]);exact B7 V V) ?_;refine L6 V V V (.gd (.gd (.val _))) V (fun hg=>by obtain ⟨hg1,hg2,hg3⟩:=F20 hg;(try rw [hg1]);(try rw [hg2]);(try rw [hg3]);exact B8 V) ?_;refine L6 V V V (.gd (.gd (.val _))) V (fun hg=>by obtain ⟨hg1,hg2,hg3⟩:=F20 hg;(try rw [hg1]);(try rw [hg2]);(try rw [hg3]);exact A7 V V) ?_;refine L6 V V V (.gd (.gd (.val _))) V (fun hg=>by obtain ⟨hg1,hg2,hg3⟩:=F20 hg;(try rw [hg1]);(try rw [hg2]);(try rw [hg3]);exact B08 V V) ?_;refine L6 V V V (.gd (.val _)) V (fun hg=>by obtain ⟨hg1,hg2⟩:=K0 hg;(try rw [hg1]);(try rw [hg2]);exact I9 V (fun h=>by first | rfl | (rw [h];rfl)) (fun h=>by first | rfl | (rw [h];rfl))) ?_;refine B1 V V V V (fun hg=>by rw [hg];exact I9 V (fun h=>by first | rfl | (rw [h];rfl)) (fun h=>by first | rfl | (rw [h];rfl))) ?_;refine I5 V V ?_;refine A6 V V (A4 ?_);refine k1 (k10 ?_)
 exact B6 (rs:=[H8 true]) (G7 rfl rfl rfl) rfl
theorem y5 {n:AL.Node} (hn:n∈nodes5):n=ndS∨n=ndA∨n=ndR∨n=ndE∨n=ndC:=by simpa using hn
theorem fits_ok (n:AL.Node) (i:Int) (hn:n∈nodes5) (hk:∀k∈n.Kids,0≤k∧k < i):FnOk Tryz.prog 166 [D38 n,E6 i] (fun rs=>rs=[H8 true]):=by
 have hlen:n.Kids.length≤3:=by rcases y5 hn with h | h | h | h | h<;>rw [h]<;>decide
 refine FnOk.intro Tryz.func166 (by decide) V V V V ?_
 refine k2 (A2 (A5 (q8 V V V) V (A6 V V (A4 ?_))));refine k1 (k2 (k2 (A2 (A5 (B8 V) V (A5 (A7 V V) V (E1 V V (A3 V V (A4 ?_))))))));refine k1 (k3 (C5 (X:=Nat) (fun j=>([(1,C0 i),(2,.s (.one (.eref Unit 8 (fun _ j=>(cellsOf B17 n 0 8).getD j (.v undef)) () 0))),(8,C7 Int 1 E3 n.Kids),(9,C0 n.Kids.length),(10,C0 j)],[])) (fun j=>j≤n.Kids.length) (fun j=>n.Kids.length - j) 0 (Nat.zero_le _) (I89 ⟨le1 rfl,le1 rfl,le1 rfl,le1 rfl,le1 rfl,trivial⟩ trivial) ?_))
 intro j hj
 dsimp only at hj ⊢
 refine k2 (A2 (E7 V V V (A4 ?_)));refine k1 (k2 ?_);refine B0 rfl (fun ht=>?_) (fun ht=>?_)
 ·have hlt:j < n.Kids.length:=by have:=A0 ht;omega
  have hv:=getI hlt
  have hkj:=hk _ (J34 hv)
  refine k5 (k1 (k2 (k3 (k2 (A2 (A5 (A8 V (.pure _ _ _ _) V (by omega) hv) V (A5 (A7 V V) V (A6 V V (A4 ?_)))))))));refine k1 (k2 (A2 (A3 V V (E7 V V V (A3 V V (B1 V V V V (fun hg=>by rw [hg];exact B7 V V) ?_))))));refine B1 V V V V (fun hg=>by rw [hg];exact B7 V V) ?_;refine B1 V V V V (fun hg=>by rw [hg];exact X7 V V) ?_;refine I5 V V ?_;refine A4 ?_;refine k1 ?_;refine B0 rfl (fun ht=>?_) (fun ht=>?_)
  ·simp only [or_pick] at ht
   have:=A0 ht
   omega
  refine k5 (k4 (k1 (A2 (D1 V V V (A3 V V (A4 ?_))))));refine k1 ?_
  exact ⟨j+1,by omega,by omega,I89 ⟨le1 rfl,le1 rfl,le1 rfl,le1 rfl,le1 rfl,trivial⟩ trivial⟩
 refine k6 (k2 (k2 (A2 (A5 (B8 V) V (A5 (A7 V V) V (A4 ?_))))));refine k1 (k3 (k2 (k2 (A2 (A5 (F8 V V) V (A6 V V (A4 ?_)))))));refine k1 ?_
 have hX:=y5 hn
 refine B0 rfl (fun ht=>?_) (fun ht=>?_)
 ·exact absurd (A0 ht) (by rcases hX with h | h | h | h | h<;>rw [h]<;>decide)
 have hK0:=A1 ht
 refine k2 (A2 (A5 (F8 V V) V (A6 V V (A4 ?_))));refine k1 ?_;refine B0 rfl (fun ht=>?_) (fun ht=>?_)
 ·have hK:=A0 ht
  have hT:decide ((n.Kids.length:Int)=0)=true:=by rcases hX with h | h | h | h | h<;>rw [h] at hK ⊢<;>first | rfl | exact absurd hK (by decide)
  refine k5 (k1 ?_);refine B0 rfl (fun ht=>?_) (fun ht=>?_)
  rotate_left
  ·exact absurd hK (A1 ht)
  refine k2 (A2 (A5 (B8 V) V (A5 (A7 V V) V (E1 V V (A5 (F8 V V) V (A6 V V (A4 ?_)))))));refine k1 (k10 (k12 (k11 ?_)))
  exact B6 (G7 rfl rfl rfl) (by rw [hT])
 have hK1:=A1 ht
 refine k2 (A2 (A5 (F8 V V) V (A6 V V (A4 ?_))));refine k1 ?_;refine B0 rfl (fun ht=>?_) (fun ht=>?_)
 ·have hK:=A0 ht
  have hT:decide ((n.Kids.length:Int)=0)=true:=by rcases hX with h | h | h | h | h<;>rw [h] at hK ⊢<;>first | rfl | exact absurd hK (by decide)
  refine k5 (k1 ?_);refine B0 rfl (fun ht=>?_) (fun ht=>?_)
  rotate_left
  ·exact absurd hK (A1 ht)
  refine k2 (A2 (A5 (B8 V) V (A5 (A7 V V) V (E1 V V (A5 (F8 V V) V (A6 V V (A4 ?_)))))));refine k1 (k10 (k12 (k11 ?_)))
  exact B6 (G7 rfl rfl rfl) (by rw [hT])
 have hK2:=A1 ht
 skip
 refine A2 (A5 (F8 V V) V (A6 V V (A4 ?_)));refine k1 ?_;refine B0 rfl (fun ht=>?_) (fun ht=>?_)
 ·have hK:=A0 ht
  have hT:decide ((n.Kids.length:Int)=0)=true:=by rcases hX with h | h | h | h | h<;>rw [h] at hK ⊢<;>first | rfl | exact absurd hK (by decide)
  refine k2 (A2 (A5 (B8 V) V (A5 (A7 V V) V (E1 V V (A5 (F8 V V) V (A6 V V (A4 ?_)))))));refine k1 (k10 (k12 (k11 ?_)))
  exact B6 (G7 rfl rfl rfl) (by rw [hT])
 have hK3:=A1 ht
 refine k2 (k2 (A2 (A5 (F8 V V) V (A6 V V (A4 ?_)))));refine k1 ?_;refine B0 rfl (fun ht=>?_) (fun ht=>?_)
 ·have hK:=A0 ht
  have hT:decide ((n.Kids.length:Int)≥2)=true:=by rcases hX with h | h | h | h | h<;>rw [h] at hK ⊢<;>first | rfl | exact absurd hK (by decide)
  refine k5 (k1 ?_);refine B0 rfl (fun ht=>?_) (fun ht=>?_)
  rotate_left
  ·exact absurd hK (A1 ht)
  refine k2 (A2 (A5 (B8 V) V (A5 (A7 V V) V (E1 V V (A5 (X7 V V) V (A6 V V (A4 ?_)))))));refine k1 (k10 (k12 (k11 ?_)))
  exact B6 (G7 rfl rfl rfl) (by rw [hT])
 have hK4:=A1 ht
 skip
 refine A2 (A5 (F8 V V) V (A6 V V (A4 ?_)));refine k1 ?_;refine B0 rfl (fun ht=>?_) (fun ht=>?_)
 ·exact absurd (A0 ht) (by rcases hX with h | h | h | h | h<;>rw [h]<;>decide)
 refine k2 (A2 (A5 (F8 V V) V (A6 V V (A4 ?_))));refine k1 ?_;refine B0 rfl (fun ht=>?_) (fun ht=>?_)
 ·have hK:=A0 ht
  have hn2:n=ndR:=by rcases hX with h | h | h | h | h<;>first | exact h | (rw [h] at hK;exact absurd hK (by decide))
  subst hn2
  refine k2 (A2 (A5 (B8 V) V (A5 (A7 V V) V (E1 V V (A5 (F8 V V) V (A3 V V (H9 V V V V (A5 (E0 V V) V (H9 V V V V (C9 (H03) V V V ?_))))))))));rintro _ rfl;refine I5 V V ?_;refine A6 V V (A4 ?_);refine k1 (k10 (k12 (k11 ?_)))
  exact B6 (G7 rfl rfl rfl) rfl
 have hK6:=A1 ht
 rcases hX with h | h | h | h | h
 ·exact absurd (by rw [h]) hK2
 ·exact absurd (by rw [h]) hK1
 ·exact absurd (by rw [h]) hK6
 ·exact absurd (by rw [h]) hK3
 ·exact absurd (by rw [h]) hK4
theorem I15:FnOk Tryz.prog 123 [B59 nodes5] (fun rs=>rs=[E6 0]):=by
 have hk:∀(i:Nat) (n:AL.Node),nodes5[i]?=some n→n∈nodes5∧∀k∈n.Kids,0≤k∧k < (i:Int):=by
  intro i n h
  refine ⟨J34 h,?_⟩
  match i,h with
  | 0,h=>cases h;decide
  | 1,h=>cases h;decide
  | 2,h=>cases h;decide
  | 3,h=>cases h;decide
  | 4,h=>cases h;decide
  | i+5,h=>simp at h
 obtain ⟨L,hL⟩:∃L,L=nodes5:=⟨_,rfl⟩
 have hl:L.length=5:=by rw [hL];rfl
 rw [←hL] at hk ⊢
 refine FnOk.intro Tryz.func123 (by decide) V V V V ?_
 refine k2 (A2 (A6 V V (A4 ?_)));refine k1 (k2 (k2 (A2 (A3 V V (E1 V V (A5 (F8 V V) V (A3 V V (B1 V V V V (fun hg=>by rw [hg];exact B7 V V) ?_))))))));refine B1 V V V V (fun hg=>by rw [hg];exact U0 V (.pure _ _ _ _)) ?_;refine B1 V V V V (fun hg=>by rw [hg];exact L7 V V) ?_;refine I5 V V ?_;refine A4 ?_;refine k1 ?_;refine B0 rfl (fun ht=>?_) (fun ht=>?_)
 ·simp only [or_pick] at ht
  have:=A0 ht
  omega
 refine k5 (k1 (k2 (k2 (A2 (A3 V V (E1 V V (A3 V V (A4 ?_))))))));refine k1 (k3 (C5 (X:=Nat) (fun i=>([(13,.s (B59 L).s1),(14,C0 L.length),(15,C0 i)],[])) (fun i=>i≤L.length) (fun i=>L.length - i) 0 (Nat.zero_le _) (I89 ⟨le1 rfl,le1 rfl,le1 rfl,trivial⟩ trivial) ?_))
 intro i hi
 dsimp only at hi ⊢
 refine k2 (A2 (E7 V V V (A4 ?_)));refine k1 (k2 ?_);refine B0 rfl (fun ht=>?_) (fun ht=>?_)
 ·have hlt:i < L.length:=by have:=A0 ht;omega
  obtain ⟨n,hn⟩:∃n,n=L[i]:=⟨_,rfl⟩
  have hv:L[i]?=some n:=by rw [hn];simp [hlt]
  obtain ⟨hm,hkk⟩:=hk i n hv
  rw [hL] at hm
  refine k5 (k1 (k2 (k3 (k2 (A2 (A3 V V (A5 (A8 V (.pure _ _ _ _) V (by omega) hv) V (A5 (E0 V V) V (C6 (J6 4 V) V (A6 V V (H1 (C2 TySz.out V V V V V V) (A4 ?_))))))))))));refine k1 (k2 (A2 (A5 (P8 V V V) V (A3 V V (C9 (fits_ok n i hm hkk) V V V ?_)))));rintro _ rfl;refine A5 (R7 V) V (A4 ?_);refine k1 ?_;refine B0 rfl (fun ht=>?_) (fun ht=>?_)
  ·cases ht
  refine k5 (k4 (k1 (A2 (D1 V V V (A3 V V (A4 ?_))))));refine k1 ?_
  exact ⟨i+1,by omega,by omega,I89 ⟨le1 rfl,le1 rfl,le1 rfl,trivial⟩ trivial⟩
 refine k6 (k2 (A2 (A6 V V (A4 ?_))));refine k1 (k10 ?_)
 exact B6 (rs:=[E6 0]) (G7 rfl rfl rfl) rfl
set_option maxHeartbeats 1000000
theorem sumW_lo (w:List Int) (hw:∀v∈w,0≤v∧v≤4001) (k:Int):0≤atG w k.toNat∧atG w k.toNat≤4001:=by
 unfold atG
 cases h:w[k.toNat]? with
 | none=>simp
 | some v=>exact hw v (J34 h)
theorem I16 (n:AL.Node) (w:List Int) (hn:n∈nodes5) (hk:∀k∈n.Kids,0≤k∧k < w.length) (hw:∀v∈w,0≤v∧v≤4001):FnOk Tryz.prog 124 [D38 n,I0 w] (fun rs=>rs=[E6 (D56 n w)]):=by
 have hlen:n.Kids.length≤3:=by rcases y5 hn with h | h | h | h | h<;>rw [h]<;>decide
 have hX:=y5 hn
 refine FnOk.intro Tryz.func124 (by decide) V V V V ?_
 refine k2 (A2 (A5 (q8 V V V) V (A6 V V (A4 ?_))));refine k1 (k2 (A2 (A6 V V (A4 ?_))));refine k1 (k2 (k2 (A2 (A5 (B8 V) V (A5 (A7 V V) V (E1 V V (A3 V V (A4 ?_))))))));refine k1 (k3 (C5 (X:=Nat × Int) (fun x=>([(1,C7 Int 1 E3 w),(2,.s (.one (.eref Unit 8 (fun _ j=>(cellsOf B17 n 0 8).getD j (.v undef)) () 0))),(5,C0 x.2),(9,C7 Int 1 E3 n.Kids),(10,C0 n.Kids.length),(11,C0 x.1)],[])) (fun x=>x.1≤n.Kids.length∧0≤x.2∧x.2≤4001∧sumW w x.2 (n.Kids.drop x.1)=sumW w 0 n.Kids) (fun x=>n.Kids.length - x.1) (0,0) ⟨Nat.zero_le _,by decide,by decide,rfl⟩ (I89 ⟨le1 rfl,le1 rfl,le1 rfl,le1 rfl,le1 rfl,le1 rfl,trivial⟩ trivial) ?_))
 rintro ⟨j,acc⟩ ⟨hj,h0,h1,hs⟩
 dsimp only at hj h0 h1 hs ⊢
 refine k2 (A2 (E7 V V V (A4 ?_)));refine k1 (k2 ?_);refine B0 rfl (fun ht=>?_) (fun ht=>?_)
 ·have hlt:j < n.Kids.length:=by have:=A0 ht;omega
  obtain ⟨k,hkd⟩:∃k,k=n.Kids[j]:=⟨_,rfl⟩
  have hv:n.Kids[j]?=some k:=by rw [hkd];simp [hlt]
  have hkk:=hk k (J34 hv)
  have hb:=sumW_lo w hw k
  have hvw:w[k.toNat]?=some (atG w k.toNat):=by
   unfold atG
   rw [J14 (by omega)];rfl
  rw [J23 hlt,←hkd,sumW] at hs
  refine k5 (k1 (k2 (k3 (k2 (A2 (A5 (A8 V (.pure _ _ _ _) V (by omega) hv) V (A5 (A7 V V) V (A6 V V (A4 ?_)))))))));refine k1 (A2 (A3 V V (A3 V V (A3 V V (A5 (A8 V (.pure _ _ _ _) V (by omega) hvw) V (A5 (A7 V V) V (D1 V V V (A5 (H44 V V) V (A6 V V (A4 ?_))))))))));refine k4 (k1 (A2 (D1 V V V (A3 V V (A4 ?_)))));refine k1 ?_
  exact ⟨(j+1,C03 (acc+atG w k.toNat) 4001),⟨by dsimp only;omega,by dsimp only [C03];split<;>omega,by dsimp only [C03];split<;>omega,hs⟩,by dsimp only;omega,I89 ⟨le1 rfl,le1 rfl,le1 rfl,le1 rfl,le1 rfl,le1 rfl,trivial⟩ trivial⟩
 have hjl:j=n.Kids.length:=by have:=A1 ht;omega
 have hs:acc=sumW w 0 n.Kids:=by
  rw [hjl,List.drop_length] at hs
  exact hs
 have hW:D56 n w=if n.Kind=4 then acc else if n.Kind=5 then C03 (acc+n.Kids.length - 1) 4001 else if n.Kind=6 then (if n.Max < 0 then C03 (n.Min*acc+acc+1) 4001 else C03 (n.Min*acc+(n.Max - n.Min)*(acc+1)) 4001) else 1:=by
  rw [hs];rfl
 refine k6 (k2 (k2 (A2 (A5 (B8 V) V (A5 (A7 V V) V (A4 ?_))))));refine k1 (k3 (k2 (A2 (A5 (F8 V V) V (A6 V V (A4 ?_))))));refine k1 ?_;refine B0 rfl (fun ht=>?_) (fun ht=>?_)
 ·have hK:n.Kind=4:=A0 ht
  refine k2 (A2 (A3 V V (A6 V V (A4 ?_))));refine k1 (k10 (k12 (k11 ?_)))
  exact B6 (rs:=[E6 acc]) (G7 rfl rfl rfl) (by rw [hW,if_pos hK])
 have hK4:¬n.Kind=4:=A1 ht
 refine k2 (A2 (A5 (F8 V V) V (A6 V V (A4 ?_))));refine k1 ?_;refine B0 rfl (fun ht=>?_) (fun ht=>?_)
 ·exact absurd (A0 ht) (by rcases hX with h | h | h | h | h<;>rw [h]<;>decide)
 have hK5:¬n.Kind=5:=A1 ht
 refine k2 (A2 (A5 (F8 V V) V (A6 V V (A4 ?_))));refine k1 ?_;refine B0 rfl (fun ht=>?_) (fun ht=>?_)
 ·have hK:n.Kind=6:=A0 ht
  have hn2:n=ndR:=by rcases hX with h | h | h | h | h<;>first | exact h | (rw [h] at hK;exact absurd hK (by decide))
  subst hn2
  refine k2 (k2 (A2 (A5 (B8 V) V (A5 (A7 V V) V (E7 V V V (A4 ?_))))));refine k1 ?_;refine B0 rfl (fun ht=>?_) (fun ht=>?_)
  ·refine k2 (A2 (A5 (B8 V) V (A5 (A7 V V) V (A3 V V (A5 (A63 V V (by (dsimp only;omega))) V ?_)))));refine A3 V V (A5 (b8 V V (by (dsimp only;omega))) V ?_);refine A5 (b8 V V (by (dsimp only;omega))) V ?_;refine A5 (H44 V V) V (A6 V V (A4 ?_));refine k1 (k10 (k11 (k12 (k11 ?_))))
   exact B6 (G7 rfl rfl rfl) (by rw [hW];rfl)
  ·cases ht
 have hK6:¬n.Kind=6:=A1 ht
 refine k5 (k2 (A2 (A6 V V (A4 ?_))));refine k1 (k10 ?_)
 exact B6 (rs:=[E6 1]) (G7 rfl rfl rfl) (by rw [hW,if_neg hK4,if_neg hK5,if_neg hK6])
def wtI (i:Nat):List Int:=F13 (nodes5.take i) 0 (List.replicate 5 0)
theorem five {p:Nat→Prop} (h0:p 0) (h1:p 1) (h2:p 2) (h3:p 3) (h4:p 4):∀i,i < 5→p i
 | 0,_=>h0
 | 1,_=>h1
 | 2,_=>h2
 | 3,_=>h3
 | 4,_=>h4
theorem wtI_len:∀i,i < 5→(wtI i).length=5∧∀v∈wtI i,0≤v∧v≤4001:=five (by decide) (by decide) (by decide) (by decide) (by decide)
theorem I71:∀i,i < 5→(wtI i).set i (D56 (nodes5.getD i C02) (wtI i))=wtI (i+1):=five rfl rfl rfl rfl rfl
theorem H04:∀i,i < 5→∀k∈(nodes5.getD i C02).Kids,0≤k∧k < 5:=five (by decide) (by decide) (by decide) (by decide) (by decide)
abbrev wt5:List Int:=[1,1,3,1,5]
theorem E05:FnOk Tryz.prog 95 [B59 nodes5] (fun rs=>rs=[I0 wt5]):=by
 obtain ⟨L,hL⟩:∃L,L=nodes5:=⟨_,rfl⟩
 have hl:L.length=5:=by rw [hL];rfl
 rw [←hL]
 refine FnOk.intro Tryz.func95 (by decide) V V V V ?_
 refine k2 (A2 (A6 V V (A4 ?_)));refine k1 (k2 (A2 (A3 V V (E1 V V (C6 (i7 764 Int E3 0 V V (by omega) (by omega) (fun _=>by first | exact ⟨⟨rfl,rfl⟩,trivial⟩ | exact ⟨H2 _ _ _,trivial⟩ | exact ⟨H2 _ _ _,⟨rfl,rfl⟩,H2 _ _ _,trivial⟩) (by first | rfl | (simp [K4,J5,Ob.free,SV.free,S1.free,TC.free]<;>rfl))) V ?_)))));refine A6 V V (A4 ?_);refine k1 (k2 (k2 (A2 (A3 V V (E1 V V (A3 V V (A4 ?_)))))));refine k1 (k3 ?_);refine C5 (X:=Nat) (fun i=>([(3,.s (.one (.mut 764))),(9,.s (B59 L).s1),(10,C0 L.length),(11,C0 i)],[(764,.arr Int 1 E3 (wtI i))])) (fun i=>i≤L.length) (fun i=>L.length - i) 0 (Nat.zero_le _) ?_ ?_
 ·rw [hl]
  exact I89 ⟨le1 rfl,le1 rfl,le1 rfl,le1 rfl,trivial⟩ ⟨rfl,trivial⟩
 intro i hi
 dsimp only at hi ⊢
 refine k2 (A2 (E7 V V V (A4 ?_)));refine k1 (k2 ?_);refine B0 rfl (fun ht=>?_) (fun ht=>?_)
 ·have hlt:i < L.length:=by have:=A0 ht;omega
  have hv:L[i]?=some (nodes5.getD i C02):=by
   rw [hL,J20,J14 (by rw [←hL];exact hlt)];rfl
  obtain ⟨h5,hb⟩:=wtI_len i (by omega)
  have hm:nodes5.getD i C02∈nodes5:=by rw [←hL] at hv ⊢;exact J34 hv
  have hvw:(wtI i)[i]?=some ((wtI i)[i]'(by omega)):=J14 (by omega)
  refine k5 (k1 (k2 (k3 (k2 (A2 (A3 V V (A5 (A8 V (.pure _ _ _ _) V (by omega) hv) V (A5 (E0 V V) V (C6 (J6 5 V) V (A6 V V (H1 (C2 TySz.out V V V V V V) (A4 ?_))))))))))));refine k1 (A2 (A3 V V (A3 V V (A5 (P8 V V V) V (A3 V V (I48 (Sees.freeze (k:=764) V) (I16 _ (wtI i) hm (by rw [h5];exact H04 i (by omega)) hb) V V V ?_))))));rintro _ rfl;refine ⟨fun _ _ _ h=>h,?_⟩;refine A5 (F3 V V V (by omega) (by omega)) V (H1 (I4 TySz.out V V (by simp;omega) V V) (A4 ?_))
  rw [J16,I71 i (by omega)]
  refine k4 (k1 (A2 (D1 V V V (A3 V V (A4 ?_)))));refine k1 ?_
  exact ⟨i+1,by omega,by omega,I89 ⟨le1 rfl,le1 rfl,le1 rfl,le1 rfl,trivial⟩ ⟨rfl,trivial⟩⟩
 have hi5:i=5:=by have:=A1 ht;omega
 subst hi5
 refine E2 (Sees.freeze (k:=764) V) ?_
 refine k6 (k2 (A2 (A3 V V (A6 V V (A4 ?_)))));refine k1 (k10 ?_)
 exact B6 (rs:=[I0 wt5]) (G7 rfl rfl rfl) rfl
theorem H05:FnOk Tryz.prog 94 [B59 nodes5] (fun rs=>rs=[E6 5,E6 0]):=by
 refine FnOk.intro Tryz.func94 (by decide) V V V V ?_
 refine k2 (A2 (A6 V V (A6 V V (A4 ?_))));refine k1 (k2 (k2 (A2 (A3 V V (C9 (I15) V V V ?_)))));rintro _ rfl;refine A6 V V (A4 ?_);refine k1 (k2 (A2 (A3 V V (A5 (Q9 V V) V (A4 ?_)))));refine k1 ?_;refine B0 rfl (fun ht=>?_) (fun ht=>?_)
 ·cases ht
 refine k5 (k1 (k2 ?_))
 have hv:wt5[((nodes5.length:Int) - 1).toNat]?=some 5:=rfl
 have hn5:nodes5.length=5:=rfl
 have hw5:wt5.length=5:=rfl
 refine A2 (A3 V V (C9 (E05) V V V ?_));rintro _ rfl;refine A3 V V (E1 V V (A5 (K9 V V (by omega)) V (A5 (A8 V (.pure _ _ _ _) V (by omega) hv) V (A5 (A7 V V) V (A6 V V (A6 V V (A4 ?_)))))));refine k1 (k10 ?_)
 exact B6 (rs:=[E6 5,E6 0]) (V5 rfl rfl rfl rfl rfl) rfl
end Go.Proofs.YtfhbolepaojekaaGreatDoor
