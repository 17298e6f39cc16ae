/- Walks of the program's functions. -/
import Derived.Test.YtkahafmcmiiolaaGreatDoorFa
import Derived.Test.YtkahafmcmiiolaaGreatDoorFs
import Derived.Test.YtkahafmcmiiolaaGreatDoorFb
import Derived.Test.YtkahafmcmiiolaaGreatDoorFc
import Derived.Test.YtkahafmcmiiolaaGreatDoorAn
set_option linter.unusedSimpArgs false
namespace Go.Proofs.YtkahafmcmiiolaaGreatDoor
open Go Go.AL
set_option maxRecDepth 100000
set_option maxHeartbeats 1000000
abbrev E88 (l:List Int):Ob:=.arr Int 1 E4 l
abbrev T4 (l:List Int):Ob:=.grow 3 Int 1 E4 l
theorem F90 {gf:Fr} {ob:Obs} (ch opn:List Int) (c:Nat) (hc:c < ch.length) (_hl:ch.length≤1000000) (ho:opn.length≤1000000) (h5:B8 ob 5=some (.box [.mut 753])) (h7:B8 ob 7=some (.box [.mut 754])) (h753:B8 ob 753=some (E88 ch)) (h754:B8 ob 754=some (T4 opn)) :
  AL.Met Tryz.prog 99 [.one (.p (.v (.int .i64 c))),.one (.ref 5 0),.one (.ref 7 0)] gf ob [754]
   (fun rs ob'=>rs=[]∧ob'=(5,.box [.mut 753])::(7,.box [.mut 754])::(753,E88 (if atG ch c < 0 then ch.set c 0 else ch))::(754,T4 (if atG ch c < 0 then opn++[(c:Int)] else opn))::Obs.forget 754 ob):=by
 have hva:=C67 (l:=ch) (p:=(c:Int)) (by omega)
 rw [K84] at hva
 refine AL.Met.introH Tryz.func99 (by decide) rfl rfl rfl (fun hH=>?_)
 refine D8 (K58 754 (l:=[(0,C3 c),(1,.s (.one (.ref 5 0))),(2,.s (.one (.ref 7 0)))]) (L:=[(5,_),(7,_),(753,_),(754,_)]) ⟨le1 rfl,le1 rfl,le1 rfl,trivial⟩ hH (by repeat (first | exact A8 | refine A9 rfl ?_)) ⟨h5,h7,h753,h754,trivial⟩) ?_
 refine k2 (A2 (G7 J J J J (A3 J J (A5 (G4 J J J (by omega) (by omega)) J (A5 (N7 J J hva J) J (F3 J J J (A4 ?_)))))));refine k1 ?_;refine B1 rfl (fun ht=>?_) (fun ht=>?_)
 ·have h1:atG ch c < 0:=A0 ht
  rw [if_pos h1,if_pos h1]
  refine k2 (A2 (G7 J J J J (A3 J J (A5 (G4 J J J (by omega) (by omega)) J (H1 (K9 TySz.out J J (by omega) J J) (A4 ?_))))));refine k1 (A2 (G7 J J J J (A3 J J (A5 (C5 (c:=E4) (ys:=[(c:Int)]) (E0 J J J J G5) J J J) J (D1 (S5 J J J (.pure _ _ _ _) (by (simp only [K87,K90];omega)) J) J (H1 (C1 TySz.out J J J J J J) (A4 ?_)))))))
  skip
  exact R1 (A59 rfl) (by repeat (first | exact A8 | refine A9 rfl ?_ | refine H2 _ ?_)) (C8 (L:=[(5,_),(7,_),(753,_),(754,_)]) ⟨rfl,rfl,rfl,rfl,trivial⟩ (by repeat (first | exact C0 | refine C4 rfl ?_ | refine K5 _ ?_))) ⟨rfl,rfl⟩
 ·have h1:¬atG ch c < 0:=A1 ht
  rw [if_neg h1,if_neg h1]
  refine k5 ?_
  exact R1 (A59 rfl) (by repeat (first | exact A8 | refine A9 rfl ?_ | refine H2 _ ?_)) (fun _ _ h=>h) ⟨rfl,rfl⟩
def A93 (n i:Nat):List Int:=List.replicate i (-1)++List.replicate (n - i) 0
theorem I51 {n i:Nat} (h:i < n):(A93 n i).set i (-1)=A93 n (i+1):=by
 unfold A93
 rw [List.set_append_right _ _ (by simp),L13,L31,show n - i=(n - (i+1))+1 by omega,List.replicate_succ,List.set_cons_zero,List.replicate_succ',K96];rfl
theorem I52 {n i:Nat} (h:i≤n):(A93 n i).length=n:=by unfold A93;simp;omega
theorem DInv.last {g:Graph} {inn:List Bool} {st:List Int} {k i:Nat} {ch opn D:List Int} (h:DInv g inn st k i ch opn D) (h0:0 < opn.length):∃c:Nat,opn=opn.take (opn.length - 1)++[(c:Int)]∧c < g.length∧opn[opn.length - 1]?=some (c:Int):=by
 have hlt:opn.length - 1 < opn.length:=by omega
 have hm:=h.on opn[opn.length - 1] (List.mem_append_right _ (K85 hlt))
 have e1:opn[opn.length - 1]=(opn[opn.length - 1].toNat:Int):=by omega
 refine ⟨opn[opn.length - 1].toNat,?_,by omega,by rw [K82 hlt];exact congrArg some e1⟩
 have h1:opn.take (opn.length - 1+1)=opn:=L09 (by omega)
 rw [List.take_add_one,K82 hlt,Option.toList_some] at h1
 rw [←e1];exact h1.symm
theorem G57 (g:Graph) (s:List Int) (hf:FewG g) (hr:related g=true) (hs:∀f∈s,0≤f∧f < g.length) (hsl:s.length≤1048576) :
  AL.Met Tryz.prog 64 [.one (.p (.list Commit 3 G6 g)),.one (.p (.list Int 1 E4 s))] [] [] [] (fun rs ob'=>∃ch,rs=[.one (.mut 753)]∧ob'=[(753,E88 ch)]∧ch.length=g.length∧∀p,p < g.length→atG ch p=if J0 (O7 g s) p=true then (D69 g (O7 g s) [] p:Int) else -1):=by
 have hg:=hf.len
 have hrs:=C30 hr hs
 have hcl:=B48 hr s hs
 obtain ⟨inn,hinn⟩:∃inn,inn=O7 g s:=⟨_,rfl⟩
 have hfin:=@DInv.fin g s
 rw [←hinn] at hrs hcl
 refine AL.Met.intro Tryz.func64 (by decide) J J J ?_
 refine k2 (A2 (A6 J J (A4 ?_)));refine k1 (k2 (A2 (A3 J J (E5 J J (D1 (o5 753 Int E4 0 J J (by omega) (by omega) (fun _=>by first | exact ⟨⟨rfl,rfl⟩,trivial⟩ | exact ⟨H8 _ _ _,trivial⟩ | exact ⟨H8 _ _ _,⟨rfl,rfl⟩,H8 _ _ _,trivial⟩) (by first | rfl | (simp [K0,K3,Ob.free,SV.free,S1.free,TC.free]<;>rfl))) J ?_)))));refine D1 (I4 5 J) J (H1 (C1 TySz.out J J J J J J) (A4 ?_));refine k1 (k2 (k2 (A2 (G7 J J J J (A5 (D39 J J) J (A3 J J (A4 ?_)))))));refine k1 (k3 ?_)
 rw [K84]
 refine D2 (X:=Nat) (fun i=>([(0,D3 Commit 3 G6 g),(1,D3 Int 1 E4 s),(5,.s (.one (.ref 5 0))),(18,C3 g.length),(19,C3 i)],[(5,.box [.mut 753]),(753,E88 (A93 g.length i))])) (fun i=>i≤g.length) (fun i=>g.length - i) 0 (Nat.zero_le _) (by rw [show A93 g.length 0=List.replicate g.length 0 by unfold A93;simp];exact (Sees.of ⟨le1 rfl,le1 rfl,le1 rfl,leE J (by first | (simp;done) | (simp;omega)),le1 rfl,trivial⟩ ⟨rfl,rfl,trivial⟩)) ?_
 intro i hi
 dsimp only at hi ⊢
 have hil:=I52 hi
 refine k2 (A2 (F3 J J J (A4 ?_)));refine k1 (k2 ?_);refine B1 rfl (fun ht=>?_) (fun ht=>?_)
 ·have hlt:i < g.length:=by have h1:=A0 ht;(try dsimp only at h1);omega
  have hst:=I51 hlt
  refine k5 (k1 (k2 (k3 (k2 (A2 (A3 J J (A6 J J (A4 ?_))))))));refine k1 (A2 (G7 J J J J (A3 J J (A5 (G4 J J J (by omega) (by (rw [hil];omega))) J ?_))));refine H1 (K9 TySz.out J J (by (rw [hil];omega)) J J) ?_;refine A4 ?_;refine k4 (k1 (A2 (D6 J J J (A3 J J (A4 ?_)))));refine k1 ?_;refine ⟨i+1,by omega,by omega,?_⟩
  rw [K84,hst]
  exact (Sees.of ⟨le1 rfl,le1 rfl,le1 rfl,le1 rfl,le1 rfl,trivial⟩ ⟨rfl,rfl,trivial⟩)
 have hie:i=g.length:=by have h1:=A1 ht;(try dsimp only at h1);omega
 rw [hie,show A93 g.length g.length=List.replicate g.length (-1) by unfold A93;simp]
 have hD0:=DInv.start g inn
 refine k6 (k2 (A2 (D1 (I4 7 J) J (A4 ?_))));refine k1 (k2 (D8 (K61 754 Int 1 E4 3 (kb:=7) (o:=0) J J J) ?_))
 refine A2 (A5 (l4 J J) J (A6 J J (A4 ?_)));refine k1 (k2 (k2 (A2 (A3 J J (E5 J J (A3 J J (A4 ?_)))))));refine k1 (k3 (D2 (X:=Nat × List Int × List Int) (fun x=>([(0,D3 Commit 3 G6 g),(5,.s (.one (.ref 5 0))),(7,.s (.one (.ref 7 0))),(8,.s (.one (.clo 99 [] [(5,0),(7,0)]))),(27,D3 Int 1 E4 s),(28,C3 s.length),(29,C3 x.1)],[(5,.box [.mut 753]),(7,.box [.mut 754]),(753,E88 x.2.1),(754,T4 x.2.2)])) (fun x=>x.1≤s.length∧DInv g inn (s.take x.1) 0 0 x.2.1 x.2.2 []) (fun x=>s.length - x.1) (0,List.replicate g.length (-1),[]) ⟨Nat.zero_le _,hD0⟩ (Sees.of ⟨le1 rfl,le1 rfl,le1 rfl,le1 rfl,le1 rfl,le1 rfl,le1 rfl,trivial⟩ ⟨rfl,rfl,rfl,rfl,trivial⟩) ?_))
 rintro ⟨j,ch,opn⟩ ⟨hj,hD⟩
 dsimp only at hj hD ⊢
 have hDl:=hD.le
 have hchl:=hD.len
 rw [K90,Nat.zero_add] at hDl
 refine k2 (A2 (F3 J J J (A4 ?_)));refine k1 (k2 ?_);refine B1 rfl (fun ht=>?_) (fun ht=>?_)
 ·have hlt:j < s.length:=by have h1:=A0 ht;(try dsimp only at h1);omega
  have hsr:=hs _ (K85 hlt)
  obtain ⟨c,hc⟩:∃c:Nat,s[j]=(c:Int):=⟨s[j].toNat,by omega⟩
  have hv:s[j]?=some (c:Int):=by rw [K82 hlt,hc]
  have hcg:c < g.length:=by omega
  have hon:J0 inn c=true:=(hrs c).2 ⟨c,by rw [←hc];exact K85 hlt,.inl rfl⟩
  obtain ⟨hD2,_⟩:=hD.reach (Nat.le_refl _) hcg hon (s.take (j+1)) (fun f hf=>by
   rw [R9 hlt] at hf
   rcases hf with hf | hf
   ·exact .inl hf
   ·right;rw [hf,hc])
  refine k5 (k1 (k2 (k3 (k2 (A2 (A5 (B2 J (.pure _ _ _ _) J (by omega) hv) J (A5 (B0 J J) J (A6 J J (A4 ?_)))))))));refine k1 (A2 (A3 J J (A3 J J (A85 (F90 ch opn c (by omega) (by omega) (by omega) J J J J) J J J J ?_))));rintro _ _ ⟨rfl,rfl⟩;refine A4 ?_;refine k4 (k1 (A2 (D6 J J J (A3 J J (A4 ?_)))));refine k1 ?_
  exact ⟨(j+1,if atG ch c < 0 then ch.set c 0 else ch,if atG ch c < 0 then opn++[(c:Int)] else opn),⟨hlt,hD2⟩,by dsimp only;omega,(Sees.of ⟨le1 rfl,le1 rfl,le1 rfl,le1 rfl,le1 rfl,le1 rfl,le1 rfl,trivial⟩ ⟨rfl,rfl,rfl,rfl,trivial⟩)⟩
 have hje:j=s.length:=by have h1:=A1 ht;(try dsimp only at h1);omega
 rw [hje,K89] at hD
 refine k6 (k2 (k3 (D2 (X:=List Int × List Int × List Int) (fun x=>([(0,D3 Commit 3 G6 g),(5,.s (.one (.ref 5 0))),(7,.s (.one (.ref 7 0))),(8,.s (.one (.clo 99 [] [(5,0),(7,0)])))],[(5,.box [.mut 753]),(7,.box [.mut 754]),(753,E88 x.1),(754,T4 x.2.1)])) (fun x=>DInv g inn s x.2.2.length 0 x.1 x.2.1 x.2.2) (fun x=>g.length - x.2.2.length) (ch,opn,[]) hD (Sees.of ⟨le1 rfl,le1 rfl,le1 rfl,le1 rfl,trivial⟩ ⟨rfl,rfl,rfl,rfl,trivial⟩) ?_)))
 rintro ⟨ch,opn,D⟩ hD
 dsimp only at hD ⊢
 have hDl:=hD.le
 have hchl:=hD.len
 refine k2 (k2 (A2 (G7 J J J J (A5 (V5 J J) J (A5 (N4 J J) J (A4 ?_))))));refine k1 ?_;refine B1 rfl (fun ht=>?_) (fun ht=>?_)
 rotate_left
 ·have h1:opn=[]:=by
   have h1:=A1 ht
   exact List.length_eq_zero_iff.1 (by omega)
  rw [h1] at hD
  have hF:=hfin hr hs (by rw [←hinn];exact hD)
  refine k6 (k2 (A2 (G7 J J J J (A6 J J (A4 ?_)))));refine k1 (k10 ?_)
  exact E1 (I1 rfl rfl) (by repeat (first | exact A8 | refine A9 rfl ?_ | refine C2 _ ?_)) (ObIn.spec (ob':=[(753,E88 ch)]) ⟨rfl,trivial⟩) ⟨ch,rfl,rfl,hchl,hF⟩
 have h0:0 < opn.length:=by have h1:=A0 ht;omega
 obtain ⟨c,e1,hcg,hvl⟩:=DInv.last hD h0
 obtain ⟨opn1,hop⟩:∃opn1,opn1=opn.take (opn.length - 1):=⟨_,rfl⟩
 have hvl:opn[((opn.length:Int) - 1).toNat]?=some (c:Int):=by rw [show ((opn.length:Int) - 1).toNat=opn.length - 1 by omega];exact hvl
 have hcut:opn.take ((opn.length:Int) - 1).toNat=opn1:=by rw [hop];congr 1;omega
 rw [←hop] at e1
 have hP:=(by rw [e1] at hD;exact hD:DInv g inn s D.length 0 ch (opn1++[(c:Int)]) D).pop
 obtain ⟨cm,hcm⟩:∃cm,cm=g[c]:=⟨_,rfl⟩
 have hvc:g[((c:Nat):Int).toNat]?=some cm:=by rw [hcm];simp [hcg]
 have hps:E6 g c=cm.Parents:=by rw [S8 hcg,hcm]
 have hpl:=hf.pars cm (by rw [hcm];exact K85 hcg)
 have honc:J0 inn c=true:=by
  have:=(hP.on (c:Int) (by simp)).2.2
  rwa [K84] at this
 have hgD:(D++[(c:Int)]).getD D.length 0=(c:Int):=by
  rw [K88,K95 (Nat.le_refl _),L31];rfl
 refine k5 (k1 (k3 (k2 (A2 (G7 J J J J (G7 J J J J (A5 (V5 J J) J (A5 (L7 J J (by omega)) J (A5 (H6 J J J (by omega) (by omega)) J (A5 (A02 J J hvl J) J (A6 J J (A4 ?_))))))))))));refine k1 (k2 (A2 (G7 J J J J (G7 J J J J (A5 (V5 J J) J (A5 (L7 J J (by omega)) J (D1 (A64 J J J (by omega) (by omega) J) J (H1 (C1 TySz.out J J J J J J) (A4 ?_)))))))))
 rw [hcut]
 refine k1 (k2 (A2 (A3 J J (A3 J J (A5 (B2 J (.pure _ _ _ _) J (by omega) hvc) J (A5 (B7 J) J (A5 (B0 J J) J (E5 J J (A3 J J (A4 ?_))))))))));refine k1 (k3 (D2 (X:=Nat × List Int × List Int) (fun x=>([(0,D3 Commit 3 G6 g),(5,.s (.one (.ref 5 0))),(7,.s (.one (.ref 7 0))),(8,.s (.one (.clo 99 [] [(5,0),(7,0)]))),(55,D3 Int 1 E4 cm.Parents),(56,C3 cm.Parents.length),(57,C3 x.1)],[(5,.box [.mut 753]),(7,.box [.mut 754]),(753,E88 x.2.1),(754,T4 x.2.2)])) (fun x=>x.1≤cm.Parents.length∧DInv g inn s D.length x.1 x.2.1 x.2.2 (D++[(c:Int)])) (fun x=>cm.Parents.length - x.1) (0,ch,opn1) ⟨Nat.zero_le _,hP⟩ (Sees.of ⟨le1 rfl,le1 rfl,le1 rfl,le1 rfl,le1 rfl,le1 rfl,le1 rfl,trivial⟩ ⟨rfl,rfl,rfl,rfl,trivial⟩) ?_))
 rintro ⟨i,ch,opn⟩ ⟨hi,hD⟩
 dsimp only at hi hD ⊢
 have hDl:=hD.le
 have hchl:=hD.len
 rw [K86,List.length_singleton] at hDl
 refine k2 (A2 (F3 J J J (A4 ?_)));refine k1 (k2 ?_);refine B1 rfl (fun ht=>?_) (fun ht=>?_)
 rotate_left
 ·have h1:i=cm.Parents.length:=by have h1:=A1 ht;(try dsimp only at h1);omega
  rw [h1,←hps] at hD
  have hN:=hD.next (k:=D.length) (by simp) hgD
  refine k6 (k7 (k7 (k8 J (k4 (k1 ?_)))))
  exact ⟨(ch,opn,D++[(c:Int)]),hN,by dsimp only;rw [K86,List.length_singleton];omega,(Sees.of ⟨le1 rfl,le1 rfl,le1 rfl,le1 rfl,trivial⟩ ⟨rfl,rfl,rfl,rfl,trivial⟩)⟩
 have hilt:i < cm.Parents.length:=by have h1:=A0 ht;(try dsimp only at h1);omega
 have hpb:=(K6 hr c).1 cm.Parents[i] (by rw [hps];exact K85 hilt)
 obtain ⟨p,hp⟩:∃p:Nat,cm.Parents[i]=(p:Int):=⟨cm.Parents[i].toNat,by omega⟩
 have hvp:cm.Parents[i]?=some (p:Int):=by rw [K82 hilt,hp]
 have hpg:p < g.length:=by omega
 have honp:J0 inn p=true:=by
  have:=hcl c honc (p:Int) (by rw [hps,←hp];exact K85 hilt)
  rwa [K84] at this
 obtain ⟨hD2,hm2⟩:=hD.reach (by simp) hpg honp s (fun f hf=>.inl hf)
 obtain ⟨q1,q2,hD3⟩:=hD2.count hr hgD (i:=i) (p:=p) (by rw [hps];exact hilt) (by simp only [hps];exact hp) hm2
 have hl2:=hD2.len
 refine k5 (k1 (k2 (k3 (k2 (A2 (A5 (B2 J (.pure _ _ _ _) J (by omega) hvp) J (A5 (B0 J J) J (A6 J J (A4 ?_)))))))));refine k1 (k2 (A2 (A3 J J (A3 J J (A85 (F90 ch opn p (by omega) (by omega) (by omega) J J J J) J J J J ?_)))));rintro _ _ ⟨rfl,rfl⟩;refine A4 ?_
 obtain ⟨ch2,hch2⟩:∃ch2,ch2=(if atG ch p < 0 then ch.set p 0 else ch):=⟨_,rfl⟩
 obtain ⟨opn2,hopn2⟩:∃opn2,opn2=(if atG ch p < 0 then opn++[(p:Int)] else opn):=⟨_,rfl⟩
 rw [←hch2] at q1 q2 hl2
 rw [←hch2,←hopn2] at hD3 ⊢
 have hva:=C67 (l:=ch2) (p:=(p:Int)) (by omega)
 refine k1 (A2 (G7 J J J J (A3 J J (A5 (G4 J J J (by omega) (by (rw [hl2];omega))) J ?_))));refine A5 (N7 J J hva J) J (A5 (X0 J J (by (rw [K84];omega))) J ?_);refine A5 (G4 J J J (by omega) (by (rw [hl2];omega))) J ?_;refine H1 (K9 TySz.out J J (by (rw [hl2];omega)) J J) ?_;refine A4 ?_;refine k4 (k1 (A2 (D6 J J J (A3 J J (A4 ?_)))));refine k1 ?_
 exact ⟨(i+1,bump ch2 p,opn2),⟨hilt,hD3⟩,by dsimp only;omega,(Sees.of ⟨le1 rfl,le1 rfl,le1 rfl,le1 rfl,le1 rfl,le1 rfl,le1 rfl,trivial⟩ ⟨rfl,rfl,rfl,rfl,trivial⟩)⟩
set_option maxHeartbeats 1000000
abbrev B41 (g:Graph):Ob:=.box [.mut 741,.fnc 65 [.list Commit 3 G6 g]]
abbrev sI (n:Int):S1:=.one (.p (.v (.int .i64 n)))
abbrev sIf (n:Int):S1:=.one (.p (.v (.iface 3 (.int .i64 n))))
abbrev F50:S1:=.one (.ifc 121 740 0)
theorem J19 {g:Graph} {c:Int} (h:0≤c∧c < g.length):∃cm,g[c.toNat]?=some cm∧W7 g c.toNat=cm.Date:=by
 have hlt:c.toNat < g.length:=by omega
 exact ⟨g[c.toNat],by simp [hlt],by unfold W7;rw [K82 hlt];rfl⟩
theorem J72 (g:Graph) (a b:Int) (_hg:g.length≤1048576) (ha:0≤a∧a < g.length) (hb:0≤b∧b < g.length):FnOk Tryz.prog 65 [J8 g,F2 a,F2 b] (fun rs=>rs=[H9 (S3 g a b)]):=by
 obtain ⟨x,hx,dx⟩:=J19 ha
 obtain ⟨y,hy,dy⟩:=J19 hb
 unfold S3
 rw [dx,dy]
 refine FnOk.intro Tryz.func65 (by decide) J J J J ?_
 refine k2 (A2 (A6 J J (A4 ?_)));refine k1 (k2 (k2 (E8 (by kernel_rfl) (by kernel_rfl) (E3 J J (E3 J J (B5 (B2 J (.pure _ _ _ _) J (by omega) hx) J J (B5 (B7 J) J J (B5 (B0 J J) J J (E3 J J (E3 J J (B5 (B2 J (.pure _ _ _ _) J (by omega) hy) J J (B5 (B7 J) J J (B5 (B0 J J) J J (B5 (R2 J J) J J (P2 ?_)))))))))))))));refine k1 ?_;refine B1 rfl (fun ht=>?_) (fun ht=>?_)
 ·have h1:x.Date≠y.Date:=A0 ht
  refine k2 (E8 (by kernel_rfl) (by kernel_rfl) (E3 J J (E3 J J (B5 (B2 J (.pure _ _ _ _) J (by omega) hx) J J (B5 (B7 J) J J (B5 (B0 J J) J J (E3 J J (E3 J J (B5 (B2 J (.pure _ _ _ _) J (by omega) hy) J J (B5 (B7 J) J J (B5 (B0 J J) J J (B5 (N4 J J) J J (B5 (I2 J J) J J (P2 ?_))))))))))))));refine k1 (k10 (k11 ?_));refine B6 (H3 rfl rfl rfl) (congrArg (fun b=>[H9 b]) (decide_eq_decide.2 ?_))
  omega
 ·have h1:¬x.Date≠y.Date:=A1 ht
  refine k5 (k1 (k2 (A2 (A3 J J (A3 J J (F3 J J J (A6 J J (A4 ?_))))))));refine k1 (k10 ?_);refine B6 (H3 rfl rfl rfl) (congrArg (fun b=>[H9 b]) (decide_eq_decide.2 ?_))
  omega
theorem E89 {gf:Fr} {ob:Obs} (g:Graph) (l:List Int) (h0:B8 ob 740=some (B41 g)) (h1:B8 ob 741=some (T4 l)) :
  AL.Met Tryz.prog 67 [.one (.ref 740 0)] gf ob [] (fun rs ob'=>rs=[sI l.length]∧ob'=ob):=by
 refine AL.Met.intro Tryz.func67 (by decide) J J J ?_
 refine k2 (A2 (A6 J J (A4 ?_)));refine k1 (k2 (A2 (A3 J J (A5 (B4 J) J (A5 (A7 J) J (A5 (C9 J h0 J) J (A5 (V5 J h1) J (A6 J J (A4 ?_)))))))));refine k1 (k10 ?_)
 exact E1 (I1 rfl rfl) (by repeat (first | exact A8 | refine A9 rfl ?_ | refine C2 _ ?_)) (fun _ _ h=>h) ⟨rfl,rfl⟩
theorem D55 {gf:Fr} {ob:Obs} (g:Graph) (l:List Int) (i j:Nat) (hg:g.length≤1048576) (hl:∀x∈l,0≤x∧x < (g.length:Int)) (hi:i < l.length) (hj:j < l.length) (h0:B8 ob 740=some (B41 g)) (h1:B8 ob 741=some (T4 l)) :
  AL.Met Tryz.prog 221 [.one (.ref 740 0),sI i,sI j] gf ob [] (fun rs ob'=>rs=[.one (.p (.v (.bool (S3 g (atG l i) (atG l j)))))]∧ob'=ob):=by
 have hvi:l[((i:Nat):Int).toNat]?=some (atG l i):=by rw [K84,P9 hi];simp [hi]
 have hvj:l[((j:Nat):Int).toNat]?=some (atG l j):=by rw [K84,P9 hj];simp [hj]
 have hb:=J72 g (atG l i) (atG l j) hg (by rw [P9 hi];exact hl _ (K85 hi)) (by rw [P9 hj];exact hl _ (K85 hj))
 refine AL.Met.intro Tryz.func221 (by decide) J J J ?_
 refine k2 (A2 (A6 J J (A4 ?_)));refine k1 (k2 (E8 (by kernel_rfl) (by kernel_rfl) (E3 J J (B5 (B4 J) J J (B5 (A7 J) J J (B5 (C9 J h0 J) J J (E3 J J (B5 (B4 J) J J (B5 (A7 J) J J (B5 (C9 J h0 J) J J (E3 J J (B5 (H6 J h1 J (by omega) (by omega)) J J (B5 (A02 J h1 hvi J) J J (E3 J J (B5 (B4 J) J J (B5 (A7 J) J J (B5 (C9 J h0 J) J J (E3 J J (B5 (H6 J h1 J (by omega) (by omega)) J J (B5 (A02 J h1 hvj J) J J (B5 (n_callC (hb) J J J) J J (B5 (I2 J J) J J (P2 ?_)))))))))))))))))))))));refine k1 (k10 ?_)
 exact E1 (I1 rfl rfl) (by repeat (first | exact A8 | refine A9 rfl ?_ | refine C2 _ ?_)) (fun _ _ h=>h) ⟨rfl,rfl⟩
theorem D56 {gf:Fr} {ob:Obs} (g:Graph) (l:List Int) (i j:Nat) (hi:i < l.length) (hj:j < l.length) (h0:B8 ob 740=some (B41 g)) (h1:B8 ob 741=some (T4 l)) :
  AL.Met Tryz.prog 224 [.one (.ref 740 0),sI i,sI j] gf ob [] (fun rs ob'=>rs=[]∧ob'=(741,T4 (c6 l i j))::ob):=by
 have hvi:l[((i:Nat):Int).toNat]?=some (atG l i):=by rw [K84,P9 hi];simp [hi]
 have hvj:l[((j:Nat):Int).toNat]?=some (atG l j):=by rw [K84,P9 hj];simp [hj]
 obtain ⟨a,ha⟩:∃a,a=atG l i:=⟨_,rfl⟩
 obtain ⟨b,hb⟩:∃b,b=atG l j:=⟨_,rfl⟩
 rw [←ha] at hvi
 rw [←hb] at hvj
 have hvj2:(l.set ((i:Nat):Int).toNat b)[((j:Nat):Int).toNat]?=some (atG (l.set i b) j):=by
  rw [K84,K84]
  have:j < (l.set i b).length:=by rw [L06];exact hj
  rw [P9 this];simp [hj]
 have hsw:(l.set ((i:Nat):Int).toNat b).set ((j:Nat):Int).toNat a=c6 l i j:=by rw [ha,hb];rfl
 have h0':B8 ((741,T4 l)::ob) 740=some (B41 g):=by rw [C7 (by decide)];exact h0
 refine AL.Met.introH Tryz.func224 (by decide) rfl rfl rfl (fun hH=>?_)
 refine D8 (K57 (l:=[(0,.s (.one (.ref 740 0))),(1,C3 i),(2,C3 j)]) (ob':=(741,T4 l)::ob) ⟨le1 rfl,le1 rfl,le1 rfl,trivial⟩ hH (by repeat (first | exact A8 | refine A9 rfl ?_)) (C8 (L:=[(741,_)]) ⟨h1,trivial⟩ C0)) ?_
 skip
 refine P3 [27,25] [[],[25],[27,25]] [(25,([],[])),(27,([],[]))] [(0,[]),(1,[]),(2,[]),(3,[]),(4,[]),(5,[]),(6,[]),(7,[]),(8,[]),(9,[]),(10,[]),(11,[]),(12,[]),(13,[]),(14,[]),(15,[]),(16,[]),(17,[]),(18,[]),(19,[]),(20,[]),(21,[]),(22,[]),(23,[]),(24,[]),(25,[]),(26,[25]),(27,[25])] [(9,[25])] (by kernel_rfl) (by kernel_rfl) (E9 J J (by kernel_rfl) J J (B9 J J) (E9 J J (by kernel_rfl) J J (B4 J) (E9 J J (by kernel_rfl) J J (A7 J) (E9 J J (by kernel_rfl) J J (C9 J h0' J) (E9 J J (by kernel_rfl) J J (B9 J J) (E9 J J (by kernel_rfl) J J (B9 J J) (E9 J J (by kernel_rfl) J J (B4 J) (E9 J J (by kernel_rfl) J J (A7 J) (E9 J J (by kernel_rfl) J J (C9 J h0' J) (E9 J J (by kernel_rfl) J J (B9 J J) (E9 J J (by kernel_rfl) J J (B9 J J) (E9 J J (by kernel_rfl) J J (B4 J) (E9 J J (by kernel_rfl) J J (A7 J) (E9 J J (by kernel_rfl) J J (C9 J h0' J) (E9 J J (by kernel_rfl) J J (B9 J J) (E9 J J (by kernel_rfl) J J (H6 J J J (by omega) (by omega)) (E9 J J (by kernel_rfl) J J (A02 J J hvj J) (E9 J J (by kernel_rfl) J J (B9 J J) (E9 J J (by kernel_rfl) J J (B4 J) (E9 J J (by kernel_rfl) J J (A7 J) (E9 J J (by kernel_rfl) J J (C9 J h0' J) (E9 J J (by kernel_rfl) J J (B9 J J) (E9 J J (by kernel_rfl) J J (H6 J J J (by omega) (by (first | omega | (rw [L06];omega)))) ?_)))))))))))))))))))))));refine E9 J J (by kernel_rfl) J J (A02 J J hvi J) (E9 J J (by kernel_rfl) J J (H6 J J J (by omega) (by omega)) (Y2 J J (by kernel_rfl) J J (A61 (fun frc hU=>v7 (b) TySz.out (S2 hU J) J hvi (S2 hU J) J J J (fun _ _ _ h=>o7 h) (by intro j h1 h2;rcases j with _ | _ | _ | _ | _ | _ | _ | j<;>first | rfl | omega))) J ?_));refine E9 J J (by kernel_rfl) J J (H6 J J J (by omega) (by (rw [L06];omega))) ?_;refine Y2 J J (by kernel_rfl) J J (A61 (fun frc hU=>v7 (a) TySz.out (S2 hU J) J hvj2 (S2 hU J) J J J (fun _ _ _ h=>o7 h) (by intro j h1 h2;rcases j with _ | _ | _ | _ | _ | _ | _ | j<;>first | rfl | omega))) J ?_;refine F73 (by kernel_rfl) rfl ?_ ?_
 ·refine O1 J J (by kernel_rfl) J J (B9 J J) ?_;exact B84
 rw [hsw]
 skip
 exact R1 (A59 rfl) (by repeat (first | exact A8 | refine tail_drop rfl ?_ | refine A9 rfl ?_)) (C8 (L:=[(741,_)]) ⟨rfl,trivial⟩ (by repeat (first | exact C0 | refine C4 rfl ?_))) ⟨rfl,rfl⟩
theorem J73 {gf:Fr} {ob:Obs} (g:Graph) (l:List Int) (c:Int) (hl:l.length≤1048576) (h0:B8 ob 740=some (B41 g)) (h1:B8 ob 741=some (T4 l)) :
  AL.Met Tryz.prog 223 [.one (.ref 740 0),sIf c] gf ob [741] (fun rs ob'=>rs=[]∧ob'=(740,B41 g)::(741,T4 (l++[c]))::Obs.forget 741 ob):=by
 refine AL.Met.introH Tryz.func223 (by decide) rfl rfl rfl (fun hH=>?_)
 refine D8 (K58 741 (l:=[(0,.s (.one (.ref 740 0))),(1,.s (sIf c))]) (L:=[(740,_),(741,_)]) ⟨le1 rfl,le1 rfl,trivial⟩ hH (by repeat (first | exact A8 | refine A9 rfl ?_)) ⟨h0,h1,trivial⟩) ?_
 skip
 refine P3 [11,8] [[],[8],[11,8]] [(8,([741],[8])),(11,([],[]))] [(0,[]),(1,[]),(2,[]),(3,[]),(4,[]),(5,[]),(6,[]),(7,[]),(8,[]),(9,[8]),(10,[8]),(11,[8])] [(0,[8])] (by kernel_rfl) (by kernel_rfl) (E9 J J (by kernel_rfl) J J (B9 J J) (E9 J J (by kernel_rfl) J J (B9 J J) (E9 J J (by kernel_rfl) J J (B4 J) (E9 J J (by kernel_rfl) J J (A7 J) (E9 J J (by kernel_rfl) J J (C9 J J J) (E9 J J (by kernel_rfl) J J (B9 J J) (E9 J J (by kernel_rfl) J J (D79 J J) (E9 J J (by kernel_rfl) J J (C5 (c:=E4) (ys:=[c]) (E0 J J J J G5) J J J) (Y2 J J (by kernel_rfl) J J (D48 (fun frc hU=>S5 (S2 hU J) J (S2 hU J) (.pure _ _ _ _) (by (simp only [K87,K90];omega)) J)) J (E9 J J (by kernel_rfl) J J (B4 J) (E9 J J (by kernel_rfl) J J (A7 J) (Y2 J J (by kernel_rfl) J J (A61 (fun frc hU=>C1 TySz.out (S2 hU J) J (S2 hU J) J J J)) J ?_))))))))))));refine D49 (ks:=[741]) rfl (by kernel_rfl) rfl ?_ ?_
 ·refine O1 J J (by kernel_rfl) J J (B9 J J) ?_;exact B84
 skip
 exact R1 (A59 rfl) (by repeat (first | exact A8 | refine tail_drop rfl ?_ | refine A9 rfl ?_ | refine H2 _ ?_ | refine C2 _ ?_)) (C8 (L:=[(740,_),(741,_)]) ⟨rfl,rfl,trivial⟩ (by repeat (first | exact C0 | refine C4 rfl ?_ | refine K5 _ ?_))) ⟨rfl,rfl⟩
theorem K36 {gf:Fr} {ob:Obs} (g:Graph) (l:List Int) (hl:l.length≤1048576) (h2:0 < l.length) (h0:B8 ob 740=some (B41 g)) (h1:B8 ob 741=some (T4 l)) :
  AL.Met Tryz.prog 222 [.one (.ref 740 0)] gf ob [741] (fun rs ob'=>rs=[sIf (atG l (l.length - 1))]∧ob'=(740,B41 g)::(741,T4 (l.take (l.length - 1)))::Obs.forget 741 ob):=by
 have hlt:l.length - 1 < l.length:=by omega
 have hv:l[((l.length:Int) - 1).toNat]?=some (atG l (l.length - 1)):=by rw [show ((l.length:Int) - 1).toNat=l.length - 1 by omega,P9 hlt];simp [hlt]
 have hc:l.take ((l.length:Int) - 1).toNat=l.take (l.length - 1):=by congr 1;omega
 refine AL.Met.introH Tryz.func222 (by decide) rfl rfl rfl (fun hH=>?_)
 refine D8 (K58 741 (l:=[(0,.s (.one (.ref 740 0)))]) (L:=[(740,_),(741,_)]) ⟨le1 rfl,trivial⟩ hH (by repeat (first | exact A8 | refine A9 rfl ?_)) ⟨h0,h1,trivial⟩) ?_
 refine k2 (A2 (A6 J J (A4 ?_)));refine k1 (k2 (A2 (A3 J J (A5 (B4 J) J (A5 (A7 J) J (G7 J J J J (A5 (V5 J J) J (A5 (L7 J J (by omega)) J (A6 J J (A4 ?_))))))))));refine k1 (k2 (A2 (A3 J J (A5 (B4 J) J (A5 (A7 J) J (G7 J J J J (A3 J J (A5 (H6 J J J (by omega) (by omega)) J (A5 (A02 J J hv J) J (A6 J J (A4 ?_)))))))))));refine k1 (k2 (A2 (A3 J J (A3 J J (A5 (B4 J) J (A5 (A7 J) J (G7 J J J J (A3 J J (D1 (A64 J J J (by omega) (by omega) J) J (A5 (B4 J) J (A5 (A7 J) J (H1 (C1 TySz.out J J J J J J) (A4 ?_)))))))))))))
 rw [hc]
 refine k1 (k2 (A2 (A3 J J (A5 (C65 J (by kernel_rfl)) J (A6 J J (A4 ?_))))));refine k1 (k10 ?_)
 exact E1 (I1 rfl rfl) (by repeat (first | exact A8 | refine A9 rfl ?_ | refine H2 _ ?_ | refine C2 _ ?_)) (C8 (L:=[(740,_),(741,_)]) ⟨rfl,rfl,trivial⟩ (by repeat (first | exact C0 | refine C4 rfl ?_ | refine K5 _ ?_))) ⟨rfl,rfl⟩
theorem up_div (j:Nat) (hj:j≤1048576):IntKind.i64.wrap (((j:Int) - 1).tdiv 2)=(((j - 1) / 2:Nat):Int):=by
 have h:((j:Int) - 1).tdiv 2=(((j - 1) / 2:Nat):Int):=by
  cases j with
  | zero=>rfl
  | succ j =>
   rw [show (((j+1:Nat):Int) - 1)=(j:Int) by omega,Int.tdiv_eq_ediv_of_nonneg (by omega)]
   omega
 rw [h]
 exact IntWalk.i64_in _ ⟨by omega,by omega⟩
theorem E90 {l:List Int} {n:Int} {i j:Nat} (hi:i < l.length) (hj:j < l.length) (h:∀x∈l,0≤x∧x < n):∀x∈c6 l i j,0≤x∧x < n:=fun x hx=>h x ((G11 hi hj x).1 hx)
theorem hUp_met {gf:Fr} {ob:Obs} (g:Graph) (l:List Int) (j:Nat) (hg:g.length≤1048576) (hl:l.length≤1048576) (hr:∀x∈l,0≤x∧x < (g.length:Int)) (hj:j < l.length) (h0:B8 ob 740=some (B41 g)) (h1:B8 ob 741=some (T4 l)) :
  AL.Met Tryz.prog 100 [F50,sI j] gf ob [] (fun rs ob'=>rs=[]∧ob'=(741,T4 (upH (S3 g) (j+1) l j))::ob):=by
 have h0':∀o,B8 ((741,o)::ob) 740=some (B41 g):=fun o=>by rw [C7 (by decide)];exact h0
 refine AL.Met.introH Tryz.func100 (by decide) rfl rfl rfl (fun hH=>?_)
 refine k3 ?_
 obtain ⟨R,hR⟩:∃R,R=upH (S3 g) (j+1) l j:=⟨_,rfl⟩
 rw [←hR]
 refine D2 (X:=Nat × List Int × Nat) (fun x=>([(0,.s F50),(1,C3 x.2.2)]++gf,(741,T4 x.2.1)::ob)) (fun x=>upH (S3 g) x.1 x.2.1 x.2.2=R∧x.2.2 < x.1∧x.2.1.length=l.length∧x.2.2 < l.length∧∀y∈x.2.1,0≤y∧y < (g.length:Int)) (fun x=>x.1) (j+1,l,j) ⟨hR.symm,by dsimp only;omega,rfl,hj,hr⟩ ?_ ?_
 ·exact K57 ⟨le1 rfl,le1 rfl,trivial⟩ hH (by repeat (first | exact A8 | refine A9 rfl ?_)) (C8 (L:=[(741,_)]) ⟨h1,trivial⟩ C0)
 rintro ⟨f,l',k⟩ ⟨hu,hkf,hll,hkl,hrg⟩
 dsimp only at hu hkf hll hkl hrg ⊢
 obtain ⟨f,rfl⟩:∃f',f=f'+1:=⟨f - 1,by omega⟩
 rw [upH] at hu
 have hdv:=up_div k (by omega)
 have hil:(k - 1) / 2 < l'.length:=by omega
 refine k3 (k2 (A2 (A3 J J (A5 (L7 J J (by omega)) J (A5 (E32 J J (by decide)) J (A6 J J (A4 ?_)))))))
 rw [hdv]
 refine k1 (k2 (k2 ?_))
 by_cases he:(k - 1) / 2=k
 ·rw [if_pos (.inl he)] at hu
  have hd:decide ((((k - 1) / 2:Nat):Int)=(k:Int))=true:=decide_eq_true (by omega)
  refine A2 (A3 J J (A3 J J (A5 (F7 J J) J (A3 J J (I8 J J J (by rw [hd];decide) J ?_)))));refine I8 J J J (by rw [hd];decide) J ?_;refine I8 J J J (by rw [hd];decide) J ?_;refine I8 J J J (by rw [hd];decide) J ?_;refine I8 J J J (by rw [hd];decide) J ?_;refine A5 (R3 J (hd) J) J (A4 ?_);refine k1 ?_;refine B1 rfl (fun ht=>?_) (fun ht=>?_)
  ·refine k6 (k7 (k9 J (k7 (k8 J ?_))))
   rw [←hu]
   exact R1 (A59 rfl) (by repeat (first | exact A8 | refine A9 rfl ?_ | refine C2 _ ?_)) (fun _ _ h=>h) ⟨rfl,rfl⟩
  ·cases ht
 ·have hd:decide ((((k - 1) / 2:Nat):Int)=(k:Int))=false:=decide_eq_false (by omega)
  refine A2 (A3 J J (A3 J J (A5 (F7 J J) J (A3 J J (H4 J J J hd (A3 J J (H4 J J J hd (A3 J J (H4 J J J hd (A3 J J (H4 J J J hd (A88 (fun a vs w=>by kernel_rfl) (D55 g l' k ((k - 1) / 2) hg hrg (by omega) hil (h0' _) J) J J J J ?_))))))))))));rintro _ _ ⟨rfl,rfl⟩;refine H4 J J J hd (A5 (Q8 J) J (A5 (S6 J (hd) J) J (A4 ?_)));refine k1 ?_;refine B1 rfl (fun ht=>?_) (fun ht=>?_)
  ·have hb:S3 g (atG l' k) (atG l' ((k - 1) / 2))=false:=by simpa using ht
   rw [if_pos (.inr hb)] at hu
   refine k6 (k7 (k9 J (k7 (k8 J ?_))))
   rw [←hu]
   exact R1 (A59 rfl) (by repeat (first | exact A8 | refine A9 rfl ?_ | refine C2 _ ?_)) (fun _ _ h=>h) ⟨rfl,rfl⟩
  ·have hb:S3 g (atG l' k) (atG l' ((k - 1) / 2))=true:=by simpa using ht
   rw [if_neg (by rw [hb];simp [he])] at hu
   refine k5 (k1 (k2 (A2 (A3 J J (A3 J J (A3 J J (A88 (fun a vs w=>by kernel_rfl) (D56 g l' ((k - 1) / 2) k hil (by omega) (h0' _) J) J J J J ?_)))))));rintro _ _ ⟨rfl,rfl⟩;refine A4 ?_;refine k1 (A2 (A3 J J (A6 J J (A4 ?_))));refine k4 (k1 ?_);refine ⟨(f,c6 l' ((k - 1) / 2) k,(k - 1) / 2),⟨hu,by dsimp only;omega,by dsimp only;rw [P0];exact hll,by dsimp only;omega,E90 hil (by omega) hrg⟩,by dsimp only;omega,?_⟩
   exact K57 ⟨le1 rfl,le1 rfl,trivial⟩ hH (by repeat (first | exact A8 | refine A9 rfl ?_)) (C8 (L:=[(741,_)]) ⟨rfl,trivial⟩ (by repeat (first | exact C0 | refine C4 rfl ?_)))
theorem J74 {gf:Fr} {ob:Obs} (g:Graph) (l:List Int) (n:Nat) (hg:g.length≤1048576) (hl:l.length≤1048576) (hr:∀x∈l,0≤x∧x < (g.length:Int)) (hn:n≤l.length) (h0:B8 ob 740=some (B41 g)) (h1:B8 ob 741=some (T4 l)) :
  AL.Met Tryz.prog 101 [F50,sI 0,sI n] gf ob [] (fun rs ob'=>∃b,rs=[.one (.p (.v (.bool b)))]∧ob'=(741,T4 (A47 (S3 g) n (n+1) l 0))::ob):=by
 have h0':∀o,B8 ((741,o)::ob) 740=some (B41 g):=fun o=>by rw [C7 (by decide)];exact h0
 refine AL.Met.introH Tryz.func101 (by decide) rfl rfl rfl (fun hH=>?_)
 refine k2 (A2 (A6 J J (A4 ?_)));refine k1 (k2 (A2 (A3 J J (A6 J J (A4 ?_)))));refine k1 (k2 (k3 ?_))
 obtain ⟨R,hR⟩:∃R,R=A47 (S3 g) n (n+1) l 0:=⟨_,rfl⟩
 rw [←hR]
 refine D2 (X:=Nat × List Int × Nat) (fun x=>([(0,.s F50),(1,C3 0),(2,C3 n),(7,C3 x.2.2)]++gf,(741,T4 x.2.1)::ob)) (fun x=>A47 (S3 g) n x.1 x.2.1 x.2.2=R∧n < x.1+x.2.2∧x.2.1.length=l.length∧x.2.2≤l.length∧∀y∈x.2.1,0≤y∧y < (g.length:Int)) (fun x=>x.1) (n+1,l,0) ⟨hR.symm,by dsimp only;omega,rfl,Nat.zero_le _,hr⟩ ?_ ?_
 ·exact K57 ⟨le1 rfl,le1 rfl,le1 rfl,le1 rfl,trivial⟩ hH (by repeat (first | exact A8 | refine A9 rfl ?_)) (C8 (L:=[(741,_)]) ⟨h1,trivial⟩ C0)
 rintro ⟨f,l',i⟩ ⟨hu,hkf,hll,hil,hrg⟩
 dsimp only at hu hkf hll hil hrg ⊢
 have hstop:n≤2*i+1→l'=R:=fun h=>by
  cases f with
  | zero=>exact hu
  | succ f=>rw [A47,if_pos h] at hu;exact hu
 refine k3 (k2 (A2 (A3 J J (A5 (A34 J J (by omega)) J (D6 J J J (A6 J J (A4 ?_)))))));refine k1 (k2 (k2 (A2 (A3 J J (A3 J J (A5 (V4 J J) J (A3 J J (B3 J J J J (fun hg=>by rw [hg];exact B9 J J) ?_))))))));refine B3 J J J J (fun hg=>by rw [hg];exact B08 J J) ?_;refine K4 J J ?_;refine A4 ?_;refine k1 ?_;refine B1 rfl (fun ht=>?_) (fun ht=>?_)
 ·have h3:=A0 (or_pick.symm.trans ht)
  rw [hstop (by omega)]
  refine k6 (k2 (A2 (A3 J J (A3 J J (A5 (N4 J J) J (A6 J J (A4 ?_)))))));refine k1 (k10 ?_)
  exact E1 (I1 rfl rfl) (by repeat (first | exact A8 | refine A9 rfl ?_ | refine C2 _ ?_)) (fun _ _ h=>h) ⟨_,rfl,rfl⟩
 have h3:=A1 (or_pick.symm.trans ht)
 have hj1:2*i+1 < n:=by omega
 obtain ⟨f,rfl⟩:∃f',f=f'+1:=⟨f - 1,by omega⟩
 rw [A47,if_neg (by omega)] at hu
 obtain ⟨c1,c2,c3⟩:=J39 (bf:=S3 g) (l:=l') hj1
 have hlow:E29 (S3 g) n l' i=if 2*i+2 < n∧S3 g (atG l' (2*i+2)) (atG l' (2*i+1))=true then 2*i+2 else 2*i+1:=rfl
 obtain ⟨j,hj⟩:∃j,j=E29 (S3 g) n l' i:=⟨_,rfl⟩
 rw [←hj] at hu c1 c2 c3 hlow
 rw [show 2*(i:Int)+1=((2*i+1:Nat):Int) by omega]
 refine k5 (k1 (k2 (A2 (A3 J J (A6 J J (A4 ?_))))));refine k1 (k2 (k2 (A2 (A3 J J (D6 J J J (A6 J J (A4 ?_)))))))
 rw [show ((2*i+1:Nat):Int)+1=((2*i+2:Nat):Int) by omega]
 refine k1 (k2 ?_)
 obtain ⟨B,hB⟩:∃B,B=(decide (2*i+2 < n)&&S3 g (atG l' (2*i+2)) (atG l' (2*i+1))):=⟨_,rfl⟩
 have hlow2:j=if B=true then 2*i+2 else 2*i+1:=by rw [hlow,hB];simp only [K83,decide_eq_true_eq]
 refine C20 ([(0,.s F50),(1,C3 0),(2,C3 n),(7,C3 i),(9,C3 ((2*i+1:Nat):Int)),(10,C3 ((2*i+2:Nat):Int)),(33,P6 B)]++gf) ((741,T4 l')::ob) ?_ ?_
 ·by_cases h2:2*i+2 < n
  ·have hd:decide (((2*i+2:Nat):Int) < (n:Int))=true:=decide_eq_true (by omega)
   have hBe:B=S3 g (atG l' (2*i+2)) (atG l' (2*i+1)):=by rw [hB,decide_eq_true h2,Bool.true_and]
   rw [hBe]
   refine A2 (A3 J J (A3 J J (F3 J J J (A3 J J (H4 J J J hd (A3 J J (H4 J J J hd (A3 J J (H4 J J J hd (A3 J J (H4 J J J hd (A88 (fun a vs w=>by kernel_rfl) (D55 g l' (2*i+2) (2*i+1) hg hrg (by omega) (by omega) (h0' _) J) J J J J ?_))))))))))));rintro _ _ ⟨rfl,rfl⟩;refine A5 (R3 J (hd) J) J (A4 ?_);refine k1 ?_
   exact K57 ⟨le1 rfl,le1 rfl,le1 rfl,le1 rfl,le1 rfl,le1 rfl,le1 rfl,trivial⟩ hH (by repeat (first | exact A8 | refine A9 rfl ?_)) (fun _ _ h=>h)
  ·have hd:decide (((2*i+2:Nat):Int) < (n:Int))=false:=decide_eq_false (by omega)
   have hBe:B=false:=by rw [hB,decide_eq_false h2,Bool.false_and]
   rw [hBe]
   refine A2 (A3 J J (A3 J J (F3 J J J (A3 J J (I8 J J J (by rw [hd];decide) J ?_)))));refine I8 J J J (by rw [hd];decide) J ?_;refine I8 J J J (by rw [hd];decide) J ?_;refine I8 J J J (by rw [hd];decide) J ?_;refine A5 (S6 J (hd) J) J (A4 ?_);refine k1 ?_
   exact K57 ⟨le1 rfl,le1 rfl,le1 rfl,le1 rfl,le1 rfl,le1 rfl,le1 rfl,trivial⟩ hH (by repeat (first | exact A8 | refine A9 rfl ?_)) (fun _ _ h=>h)
 skip
 refine C20 ([(0,.s F50),(1,C3 0),(2,C3 n),(7,C3 i),(9,C3 j)]++gf) ((741,T4 l')::ob) ?_ ?_
 ·refine B1 rfl (fun ht=>?_) (fun ht=>?_)
  ·rw [if_pos ht] at hlow2
   skip
   refine A2 (A3 J J (A6 J J (A4 ?_)));refine k1 ?_
   rw [hlow2]
   exact K57 ⟨le1 rfl,le1 rfl,le1 rfl,le1 rfl,le1 rfl,trivial⟩ hH (by repeat (first | exact A8 | refine A9 rfl ?_)) (fun _ _ h=>h)
  ·rw [if_neg (by rw [ht];decide)] at hlow2
   refine k5 (k1 ?_)
   rw [hlow2]
   exact K57 ⟨le1 rfl,le1 rfl,le1 rfl,le1 rfl,le1 rfl,trivial⟩ hH (by repeat (first | exact A8 | refine A9 rfl ?_)) (fun _ _ h=>h)
 refine k2 (k2 (A2 (A3 J J (A3 J J (A3 J J (A88 (fun a vs w=>by kernel_rfl) (D55 g l' j i hg hrg (by omega) (by omega) (h0' _) J) J J J J ?_))))));rintro _ _ ⟨rfl,rfl⟩;refine A5 (Q8 J) J (A4 ?_);refine k1 ?_;refine B1 rfl (fun ht=>?_) (fun ht=>?_)
 ·have hb:S3 g (atG l' j) (atG l' i)=false:=by simpa using ht
  rw [if_pos hb] at hu
  rw [←hu]
  refine k6 (k2 (A2 (A3 J J (A3 J J (A5 (N4 J J) J (A6 J J (A4 ?_)))))));refine k1 (k10 ?_)
  exact E1 (I1 rfl rfl) (by repeat (first | exact A8 | refine A9 rfl ?_ | refine C2 _ ?_)) (fun _ _ h=>h) ⟨_,rfl,rfl⟩
 ·have hb:S3 g (atG l' j) (atG l' i)=true:=by simpa using ht
  rw [if_neg (by rw [hb];decide)] at hu
  refine k5 (k1 (k2 (A2 (A3 J J (A3 J J (A3 J J (A88 (fun a vs w=>by kernel_rfl) (D56 g l' i j (by omega) (by omega) (h0' _) J) J J J J ?_)))))));rintro _ _ ⟨rfl,rfl⟩;refine A4 ?_;refine k1 (A2 (A3 J J (A6 J J (A4 ?_))));refine k4 (k1 ?_);refine ⟨(f,c6 l' i j,j),⟨hu,by dsimp only;omega,by dsimp only;rw [P0];exact hll,by dsimp only;omega,E90 (by omega) (by omega) hrg⟩,by dsimp only;omega,?_⟩
  exact K57 ⟨le1 rfl,le1 rfl,le1 rfl,le1 rfl,trivial⟩ hH (by repeat (first | exact A8 | refine A9 rfl ?_)) (C8 (L:=[(741,_)]) ⟨rfl,trivial⟩ (by repeat (first | exact C0 | refine C4 rfl ?_)))
set_option maxHeartbeats 1000000
theorem F91 {gf:Fr} {ob:Obs} (g:Graph) (l:List Int) (c:Int) (hg:g.length≤1000) (hl:l.length≤1000) (hr:∀x∈l,0≤x∧x < (g.length:Int)) (hc:0≤c∧c < g.length) (h0:B8 ob 740=some (B41 g)) (h1:B8 ob 741=some (T4 l)) :
  AL.Met Tryz.prog 66 [F50,sIf c] gf ob [741] (fun rs ob'=>rs=[]∧ob'=(740,B41 g)::(741,T4 (D27 (S3 g) l c))::Obs.forget 741 ob):=by
 have hr2:∀x∈l++[c],0≤x∧x < (g.length:Int):=fun x hx=>by
  rcases List.mem_append.1 hx with hx | hx
  ·exact hr x hx
  ·rw [List.mem_singleton.1 hx];exact hc
 have hla:(l++[c]).length=l.length+1:=by simp
 have hp:upH (S3 g) (l.length+1) (l++[c]) l.length=D27 (S3 g) l c:=rfl
 refine AL.Met.introH Tryz.func66 (by decide) rfl rfl rfl (fun hH=>?_)
 refine D8 (K58 741 (l:=[(0,.s F50),(1,.s (sIf c))]) (L:=[(740,_),(741,_)]) ⟨le1 rfl,le1 rfl,trivial⟩ hH (by repeat (first | exact A8 | refine A9 rfl ?_)) ⟨h0,h1,trivial⟩) ?_
 refine k2 (A2 (A3 J J (A3 J J (A88 (fun a vs w=>by kernel_rfl) (J73 g l c (by omega) J J) J J J J ?_))));rintro _ _ ⟨rfl,rfl⟩;refine A4 ?_;refine k1 (A2 (A3 J J (A3 J J (A88 (fun a vs w=>by kernel_rfl) (E89 g (l++[c]) J J) J J J J ?_))));rintro _ _ ⟨rfl,rfl⟩;refine A5 (L7 J J (by (rw [hla];omega))) J ?_;refine G8 ((by rw [hla,show (((l.length+1:Nat):Int)) - 1=((l.length:Nat):Int) by omega];exact hUp_met g (l++[c]) l.length (by omega) (by omega) hr2 (by omega) J J)) J J J ?_;rintro _ _ ⟨rfl,rfl⟩;refine A4 ?_
 rw [hp]
 skip
 exact R1 (A59 rfl) (by repeat (first | exact A8 | refine A9 rfl ?_ | refine H2 _ ?_ | refine C2 _ ?_)) (C8 (L:=[(740,_),(741,_)]) ⟨rfl,rfl,trivial⟩ (by repeat (first | exact C0 | refine C4 rfl ?_ | refine K5 _ ?_))) ⟨rfl,rfl⟩
theorem K37 {gf:Fr} {ob:Obs} (g:Graph) (l:List Int) (hg:g.length≤1000) (hl:l.length≤1000) (h2:0 < l.length) (hr:∀x∈l,0≤x∧x < (g.length:Int)) (h0:B8 ob 740=some (B41 g)) (h1:B8 ob 741=some (T4 l)) :
  AL.Met Tryz.prog 68 [F50] gf ob [741] (fun rs ob'=>rs=[sIf (atG (C83 (S3 g) l) (l.length - 1))]∧ob'=(740,B41 g)::(741,T4 ((C83 (S3 g) l).take (l.length - 1)))::Obs.forget 741 ob):=by
 have hsl:=P0 l 0 (l.length - 1)
 have hsr:=E90 (n:=(g.length:Int)) (i:=0) (j:=l.length - 1) h2 (by omega) hr
 have hdn:A47 (S3 g) (l.length - 1) (l.length - 1+1) (c6 l 0 (l.length - 1)) 0=C83 (S3 g) l:=by unfold C83;rw [show l.length - 1+1=l.length by omega]
 have hpl:(C83 (S3 g) l).length=l.length:=by
  rw [←hdn]
  exact (by
   have key:∀(f i:Nat) (x:List Int),(A47 (S3 g) (l.length - 1) f x i).length=x.length:=by
    intro f
    induction f with
    | zero=>intro i x;rfl
    | succ f ih =>
     intro i x
     rw [A47]
     split
     ·rfl
     ·split
      ·rfl
      ·rw [ih,P0]
   rw [key,P0])
 refine AL.Met.introH Tryz.func68 (by decide) rfl rfl rfl (fun hH=>?_)
 refine D8 (K58 741 (l:=[(0,.s F50)]) (L:=[(740,_),(741,_)]) ⟨le1 rfl,trivial⟩ hH (by repeat (first | exact A8 | refine A9 rfl ?_)) ⟨h0,h1,trivial⟩) ?_
 refine k2 (A2 (A6 J J (A4 ?_)));refine k1 (k2 (A2 (A3 J J (A88 (fun a vs w=>by kernel_rfl) (E89 g l J J) J J J J ?_))));rintro _ _ ⟨rfl,rfl⟩;refine A5 (L7 J J (by omega)) J (A6 J J (A4 ?_))
 rw [show ((l.length:Nat):Int) - 1=((l.length - 1:Nat):Int) by omega]
 refine k1 (k2 (A2 (A3 J J (A3 J J (A88 (fun a vs w=>by kernel_rfl) (D56 g l 0 (l.length - 1) h2 (by omega) J J) J J J J ?_)))));rintro _ _ ⟨rfl,rfl⟩;refine A4 ?_;refine k1 (k2 (A2 (A3 J J (A3 J J (G8 (J74 g (c6 l 0 (l.length - 1)) (l.length - 1) (by omega) (by omega) hsr (by omega) J J) J J J ?_)))));rintro _ _ ⟨b,rfl,rfl⟩;refine A4 ?_
 rw [hdn]
 refine k1 (k2 (A2 (A3 J J (A88 (fun a vs w=>by kernel_rfl) ((by rw [←hpl];exact K36 g (C83 (S3 g) l) (by omega) (by omega) J J)) J J J J ?_))));rintro _ _ ⟨rfl,rfl⟩;refine A6 J J (A4 ?_)
 rw [hpl]
 refine k1 (k10 ?_)
 exact E1 (I1 rfl rfl) (by repeat (first | exact A8 | refine A9 rfl ?_ | refine H2 _ ?_ | refine C2 _ ?_)) (C8 (L:=[(740,_),(741,_)]) ⟨rfl,rfl,trivial⟩ (by repeat (first | exact C0 | refine C4 rfl ?_ | refine K5 _ ?_))) ⟨rfl,rfl⟩
theorem OInv.ub {g:Graph} {inn:List Bool} {k i:Nat} {ch hp out:List Int} (h:OInv g inn k i ch hp out) (p:Nat) (hp:p < g.length):-1≤atG ch p∧atG ch p≤g.length:=by
 cases ho:J0 inn p
 ·have:=h.off p hp ho;omega
 ·have h1:=h.cnt p hp ho
  have h2:=G81 g inn (out.take k) p
  split at h1<;>omega
theorem J75 (g:Graph) (s:Int) (h:FewT g):FnOk Tryz.prog 39 [J8 g,K2 [s]] (fun rs=>rs=[K2 (Q4 g s).1,F2 (Q4 g s).2]):=by
 have hg:=h.few.len
 refine FnOk.intro Tryz.func39 (by decide) J J J J ?_
 refine k2 (A2 (A6 J J (A6 J J (A4 ?_))));refine k1 (k2 (k2 (A2 (A3 J J (D7 (J14 g h) J J J ?_)))));rintro _ rfl;refine A6 J J (A4 ?_);refine k1 (k2 (A2 (A3 J J (A5 (R2 J J) J (A4 ?_)))));refine k1 ?_;refine B1 rfl (fun ht=>?_) (fun ht=>?_)
 ·have h1:K7 g≠0:=A0 ht
  refine k2 (A2 (A3 J J (A5 (J5 _ 1 E4) J (A6 J J (A4 ?_)))));refine k1 (k10 (k11 ?_))
  exact B6 (rs:=[K2 [],F2 (K7 g)]) (Z6 rfl rfl rfl rfl rfl) (by unfold Q4;rw [if_pos h1])
 have h1:¬K7 g≠0:=A1 ht
 have hvg:=b9 (Decidable.not_not.1 h1)
 refine k5 (k1 (k2 (k2 (A2 (A3 J J (E5 J J (A3 J J (A4 ?_))))))));refine k1 (k3 (D2 (X:=Nat) (fun i=>([(0,D3 Commit 3 G6 g),(1,D3 Int 1 E4 [s]),(23,D3 Int 1 E4 [s]),(24,C3 1),(25,C3 i)],[])) (fun i=>i≤1∧(i=1→U6 g s)) (fun i=>1 - i) 0 ⟨Nat.zero_le _,fun h=>by cases h⟩ (Sees.of ⟨le1 rfl,le1 rfl,le1 rfl,le1 rfl,le1 rfl,trivial⟩ trivial) ?_))
 rintro i ⟨hi,hs⟩
 dsimp only at hi hs ⊢
 refine k2 (A2 (F3 J J J (A4 ?_)));refine k1 (k2 ?_);refine B1 rfl (fun ht=>?_) (fun ht=>?_)
 ·have hlt:i=0:=by have h1:=A0 ht;omega
  subst hlt
  have hv:[s][((0:Nat):Int).toNat]?=some s:=rfl
  refine k5 (k1 (k2 (k3 (k2 (A2 (A5 (B2 J (.pure _ _ _ _) J (by omega) hv) J (A5 (B0 J J) J (A6 J J (A4 ?_)))))))));refine k1 (k2 (A2 (A3 J J (A3 J J (D7 (dis_ok g s) J J J ?_)))));rintro _ rfl;refine A5 (Q8 J) J (A4 ?_);refine k1 ?_;refine B1 rfl (fun ht=>?_) (fun ht=>?_)
  ·have h2:¬U6 g s:=by simpa using ht
   refine k2 (A2 (A5 (J5 _ 1 E4) J (A6 J J (A4 ?_))));refine k1 (k10 (k12 (k11 (k11 (k12 (k11 ?_))))))
   exact B6 (rs:=[K2 [],F2 5]) (Z6 rfl rfl rfl rfl rfl) (by unfold Q4;rw [if_neg h1,if_neg h2])
  ·have h2:U6 g s:=by simpa using ht
   refine k5 (k4 (k1 (A2 (D6 J J J (A3 J J (A4 ?_))))));refine k1 ?_
   exact ⟨1,⟨Nat.le_refl _,fun _=>h2⟩,by omega,(Sees.of ⟨le1 rfl,le1 rfl,le1 rfl,le1 rfl,le1 rfl,trivial⟩ trivial)⟩
 have hi1:i=1:=by have h1:=A1 ht;omega
 have hs:=hs hi1
 have hres:Q4 g s=(y5 g [s],0):=by unfold Q4;rw [if_neg h1,if_pos hs]
 rw [hres]
 have hsr:∀f∈[s],0≤f∧f < g.length:=fun f hf=>by rw [List.mem_singleton.1 hf];exact hs
 refine k6 (k2 (A2 (A3 J J (A6 J J (A4 ?_)))));refine k1 (k2 (A2 (A3 J J (A3 J J (B12 (G57 g [s] h.few hvg.rel hsr (by simp)) J J J J ?_)))));rintro _ _ ⟨ch,rfl,rfl,hchl,hch⟩;refine ⟨rfl,?_⟩;refine A6 J J (A4 ?_)
 have hcl:=B48 hvg.rel [s] hsr
 obtain ⟨inn,hinn⟩:∃inn,inn=O7 g [s]:=⟨_,rfl⟩
 have hil:inn.length=g.length:=by rw [hinn];exact C01 g _
 have hord:y5 g [s]=C40 g inn (g.length+1) []:=by rw [hinn];rfl
 rw [←hinn] at hch hcl
 rw [hord]
 have hlo:∀p,p < g.length → -1≤atG ch p∧atG ch p≤g.length:=fun p hp=>by
  rw [hch p hp]
  have:=G81 g inn [] p
  split<;>omega
 refine k1 (k2 (A2 (A3 J J (A5 (H08 (cs:=[.list Commit 3 G6 g]) J J) J (A5 (J4 J) J (D1 (i6 740 J J J) J (A6 J J (A4 ?_))))))));refine k1 (k2 (k2 (D8 (K61 741 Int 1 E4 3 (kb:=740) (o:=0) J J J) ?_)))
 refine A2 (A3 J J (A5 (D39 J J) J (A3 J J (A4 ?_))));refine k1 (k3 (D2 (X:=Nat × List Int) (fun x=>([(0,D3 Commit 3 G6 g),(10,.s (.one (.mut 753))),(11,.s (.one (.ref 740 0))),(42,.s (.one (.mut 753))),(43,C3 g.length),(44,C3 x.1)],[(740,B41 g),(741,T4 x.2),(753,E88 ch)])) (fun x=>x.1≤g.length∧HInv g ch x.2 x.1) (fun x=>g.length - x.1) (0,[]) ⟨Nat.zero_le _,HInv.nil g ch⟩ (by rw [←hchl];exact (Sees.of ⟨le1 rfl,le1 rfl,le1 rfl,le1 rfl,le1 rfl,le1 rfl,trivial⟩ ⟨rfl,rfl,rfl,trivial⟩)) ?_))
 rintro ⟨i,hp⟩ ⟨hi,hI⟩
 dsimp only at hi hI ⊢
 have hpl:=hI.le
 refine k2 (A2 (F3 J J J (A4 ?_)));refine k1 (k2 ?_);refine B1 rfl (fun ht=>?_) (fun ht=>?_)
 ·have hlt:i < g.length:=by have h1:=A0 ht;(try dsimp only at h1);omega
  have hva:=C67 (l:=ch) (p:=(i:Int)) (by omega)
  rw [K84] at hva
  have hN:=hI.step
  have hrg:∀x∈hp,0≤x∧x < (g.length:Int):=fun x hx=>by have:=hI.rng x hx;omega
  refine k5 (k1 (k2 (k3 (k2 (A2 (A3 J J (A5 (G4 J J J (by omega) (by omega)) J (A5 (N7 J J hva J) J (A6 J J (A6 J J (A4 ?_)))))))))));refine k1 (k2 (A2 (A3 J J (A5 (F7 J J) J (A4 ?_)))));refine k1 ?_;refine B1 rfl (fun ht=>?_) (fun ht=>?_)
  ·have h2:atG ch i=0:=A0 ht
   rw [if_pos h2] at hN
   skip
   refine A2 (A3 J J (A5 (B34 J (by kernel_rfl)) J (A3 J J (A5 (C65 J (by kernel_rfl)) J (G8 (F91 g hp i hg (by omega) hrg (by omega) J J) J J J ?_)))));rintro _ _ ⟨rfl,rfl⟩;refine A4 ?_;refine k4 (k1 (A2 (D6 J J J (A3 J J (A4 ?_)))));refine k1 ?_
   exact ⟨(i+1,D27 (S3 g) hp i),⟨hlt,hN⟩,by dsimp only;omega,(Sees.of ⟨le1 rfl,le1 rfl,le1 rfl,le1 rfl,le1 rfl,le1 rfl,trivial⟩ ⟨rfl,rfl,rfl,trivial⟩)⟩
  ·have h2:¬atG ch i=0:=A1 ht
   rw [if_neg h2] at hN
   refine k5 (k4 (k1 (A2 (D6 J J J (A3 J J (A4 ?_))))));refine k1 ?_
   exact ⟨(i+1,hp),⟨hlt,hN⟩,by dsimp only;omega,(Sees.of ⟨le1 rfl,le1 rfl,le1 rfl,le1 rfl,le1 rfl,le1 rfl,trivial⟩ ⟨rfl,rfl,rfl,trivial⟩)⟩
 have hie:i=g.length:=by have h1:=A1 ht;(try dsimp only at h1);omega
 rw [hie] at hI
 have hO:=OInv.start hchl hil hch hI
 refine k6 (k2 (A2 (D1 (S9 14 _ E4 J) J (A4 ?_))));refine k1 (k2 (k3 (D2 (X:=List Int × List Int × List Int) (fun x=>([(0,D3 Commit 3 G6 g),(10,.s (.one (.mut 753))),(11,.s (.one (.ref 740 0))),(14,.s (.one (.buf 14 Int 1 E4 x.2.2)))],[(14,.spare x.2.2.length 1 3),(740,B41 g),(741,T4 x.2.1),(753,E88 x.1)])) (fun x=>OInv g inn x.2.2.length 0 x.1 x.2.1 x.2.2∧C40 g inn (g.length+1 - x.2.2.length) x.2.2=C40 g inn (g.length+1) []) (fun x=>g.length+1 - x.2.2.length) (ch,hp,[]) ⟨hO,rfl⟩ (Sees.of ⟨le1 rfl,le1 rfl,le1 rfl,le1 rfl,trivial⟩ ⟨rfl,rfl,rfl,rfl,trivial⟩) ?_)))
 rintro ⟨ch,hp,out⟩ ⟨hO,hro⟩
 dsimp only at hO hro ⊢
 obtain ⟨hol,hpl⟩:=hO.le
 have hchl:=hO.len
 refine k2 (k2 (A2 (A3 J J (G8 (E89 g hp J J) J J J ?_))));rintro _ _ ⟨rfl,rfl⟩;refine A5 (N4 J J) J (A4 ?_);refine k1 ?_;refine B1 rfl (fun ht=>?_) (fun ht=>?_)
 rotate_left
 ·have h2:hp=[]:=by
   have h2:=A1 ht
   exact List.length_eq_zero_iff.1 (by omega)
  rw [h2] at hO
  have hb:=hO.fin
  rw [H88 (by omega)] at hro
  rw [←hro]
  refine k6 (k2 (A2 (A3 J J (A6 J J (A6 J J (A4 ?_))))));refine k1 (k10 ?_)
  exact B6 (rs:=[K2 out,F2 0]) (Z6 rfl rfl rfl rfl rfl) rfl
 have hp0:0 < hp.length:=by have h2:=A0 ht;omega
 obtain ⟨b1,b2,b3⟩:=hO.pop hp0
 have hm:atG hp 0∈hp:=by rw [P9 hp0];exact K85 hp0
 have hr0:=hO.hpr _ hm
 obtain ⟨c,hc⟩:∃c:Nat,atG hp 0=(c:Int):=⟨(atG hp 0).toNat,by omega⟩
 rw [G13 (by omega) (by omega),b1,hc] at hro
 rw [hc] at b2 b3
 have hcg:c < g.length:=by omega
 obtain ⟨cm,hcm⟩:∃cm,cm=g[c]:=⟨_,rfl⟩
 have hvc:g[((c:Nat):Int).toNat]?=some cm:=by rw [hcm];simp [hcg]
 have hps:E6 g c=cm.Parents:=by rw [S8 hcg,hcm]
 have hpl2:=h.few.pars cm (by rw [hcm];exact K85 hcg)
 obtain ⟨hp1,hhp1⟩:∃hp1,hp1=(C83 (S3 g) hp).take (hp.length - 1):=⟨_,rfl⟩
 refine k5 (k1 (k3 (k2 (A2 (A3 J J (A5 (B34 J (by kernel_rfl)) J (G8 (K37 g hp hg (by omega) hp0 hO.hpr J J) J J J ?_)))))));rintro _ _ ⟨rfl,rfl⟩;refine A5 (D79 J J) J (A6 J J (A4 ?_))
 rw [b3,←hhp1]
 rw [←hhp1] at b2
 refine k1 (k2 (A2 (A3 J J (A3 J J (A5 (C5 (c:=E4) (ys:=[(c:Int)]) (E0 J J J J G5) J J J) J (D1 (J7 J J J (.pure _ _ _ _) (by (simp only [K87,K90];omega)) J) J (A6 J J (A4 ?_))))))));refine k1 (k2 (A2 (A3 J J (A3 J J (A5 (B2 J (.pure _ _ _ _) J (by omega) hvc) J (A5 (B7 J) J (A5 (B0 J J) J (E5 J J (A3 J J (A4 ?_))))))))));refine k1 (k3 (D2 (X:=Nat × List Int × List Int) (fun x=>([(0,D3 Commit 3 G6 g),(10,.s (.one (.mut 753))),(11,.s (.one (.ref 740 0))),(14,.s (.one (.buf 14 Int 1 E4 (out++[(c:Int)])))),(72,D3 Int 1 E4 cm.Parents),(73,C3 cm.Parents.length),(74,C3 x.1)],[(14,.spare (out++[(c:Int)]).length 1 3),(740,B41 g),(741,T4 x.2.2),(753,E88 x.2.1)])) (fun x=>x.1≤cm.Parents.length∧OInv g inn out.length x.1 x.2.1 x.2.2 (out++[(c:Int)])) (fun x=>cm.Parents.length - x.1) (0,ch,hp1) ⟨Nat.zero_le _,b2⟩ (Sees.of ⟨le1 rfl,le1 rfl,le1 rfl,le1 rfl,le1 rfl,le1 rfl,le1 rfl,trivial⟩ ⟨rfl,rfl,rfl,rfl,trivial⟩) ?_))
 rintro ⟨i,ch,hp⟩ ⟨hi,hO⟩
 dsimp only at hi hO ⊢
 obtain ⟨hol2,hpl⟩:=hO.le
 have hchl:=hO.len
 have hub:=OInv.ub hO
 have hvo:(out++[(c:Int)])[out.length]?=some (c:Int):=by rw [K95 (Nat.le_refl _),L31];rfl
 rw [K86,List.length_singleton] at hol2
 refine k2 (A2 (F3 J J J (A4 ?_)));refine k1 (k2 ?_);refine B1 rfl (fun ht=>?_) (fun ht=>?_)
 rotate_left
 ·have h2:i=cm.Parents.length:=by have h1:=A1 ht;(try dsimp only at h1);omega
  rw [h2,←hps] at hO
  have hN:=hO.next (by simp) hvo
  refine k6 (k7 (k7 (k8 J (k4 (k1 ?_)))));refine ⟨(ch,hp,out++[(c:Int)]),⟨hN,?_⟩,by dsimp only;rw [K86,List.length_singleton];omega,(Sees.of ⟨le1 rfl,le1 rfl,le1 rfl,le1 rfl,trivial⟩ ⟨rfl,rfl,rfl,rfl,trivial⟩)⟩
  dsimp only
  rw [←hro,K86,List.length_singleton]
  congr 1<;>omega
 have hilt:i < cm.Parents.length:=by have h1:=A0 ht;(try dsimp only at h1);omega
 have hpb:=(K6 hvg.rel c).1 cm.Parents[i] (by rw [hps];exact K85 hilt)
 obtain ⟨p,hpe⟩:∃p:Nat,cm.Parents[i]=(p:Int):=⟨cm.Parents[i].toNat,by omega⟩
 have hvp:cm.Parents[i]?=some (p:Int):=by rw [K82 hilt,hpe]
 obtain ⟨s1,s2,s3,s4,s5⟩:=hO.step hvg.rel hcl (by simp) hvo (i:=i) (p:=p) (by rw [hps];exact hilt) (by simp only [hps];exact hpe)
 have hva:=C67 (l:=ch) (p:=(p:Int)) (by omega)
 have hva2:(X2 ch p)[((p:Nat):Int).toNat]?=some (atG ch p - 1):=by
  unfold X2
  rw [K84,List.getElem?_set_self (by omega)]
 have hdl:(X2 ch p).length=g.length:=by unfold X2;rw [L06,hchl]
 have hset:ch.set ((p:Nat):Int).toNat (atG ch ((p:Nat):Int).toNat - 1)=X2 ch p:=rfl
 refine k5 (k1 (k2 (k3 (k2 (A2 (A5 (B2 J (.pure _ _ _ _) J (by omega) hvp) J (A5 (B0 J J) J (A6 J J (A4 ?_)))))))));refine k1 (k2 (A2 (A3 J J (A3 J J (A5 (G4 J J J (by omega) (by (rw [hchl];omega))) J ?_)))));refine A5 (N7 J J hva J) J (A5 (L7 J J (by (rw [K84];omega))) J ?_);refine A5 (G4 J J J (by omega) (by (rw [hchl];omega))) J ?_;refine H1 (K9 TySz.out J J (by (rw [hchl];omega)) J J) ?_;refine A4 ?_
 rw [hset]
 refine k1 (k2 (A2 (A3 J J (A3 J J (A5 (G4 J J J (by omega) (by (rw [hdl];omega))) J ?_)))));refine A5 (N7 J J hva2 J) J (A5 (F7 J J) J (A4 ?_));refine k1 ?_;refine B1 rfl (fun ht=>?_) (fun ht=>?_)
 ·have h2:atG ch p - 1=0:=A0 ht
  rw [if_pos h2] at s5
  skip
  refine A2 (A3 J J (A5 (B34 J (by kernel_rfl)) J (A3 J J (A5 (C65 J (by kernel_rfl)) J (G8 (F91 g hp p hg (by omega) hO.hpr (by omega) J J) J J J ?_)))));rintro _ _ ⟨rfl,rfl⟩;refine A4 ?_;refine k4 (k1 (A2 (D6 J J J (A3 J J (A4 ?_)))));refine k1 ?_
  exact ⟨(i+1,X2 ch p,D27 (S3 g) hp p),⟨hilt,s5⟩,by dsimp only;omega,(Sees.of ⟨le1 rfl,le1 rfl,le1 rfl,le1 rfl,le1 rfl,le1 rfl,le1 rfl,trivial⟩ ⟨rfl,rfl,rfl,rfl,trivial⟩)⟩
 ·have h2:¬atG ch p - 1=0:=A1 ht
  rw [if_neg h2] at s5
  refine k5 (k4 (k1 (A2 (D6 J J J (A3 J J (A4 ?_))))));refine k1 ?_
  exact ⟨(i+1,X2 ch p,hp),⟨hilt,s5⟩,by dsimp only;omega,(Sees.of ⟨le1 rfl,le1 rfl,le1 rfl,le1 rfl,le1 rfl,le1 rfl,le1 rfl,trivial⟩ ⟨rfl,rfl,rfl,rfl,trivial⟩)⟩
set_option maxHeartbeats 1000000
abbrev isS (l:List Int):S1:=.one (.p (.list Int 1 E4 l))
theorem K38 (f:Str × Str→Bool) (g:Graph) (c:Nat):(M8 g c).flatten.any f=T0 f g c:=by
 unfold T0
 rw [List.any_flatten]
theorem D90 (g:Graph) (s:Int) (f:FuncId) (α:Type) (ec:Nat) (cc:α→Nat→Cell) (v:α) (pr:Str × Str→Bool) (h:FewT g) (hs6:Short g)
  (hf:Valid g→∀c:Nat,c < g.length→∀x∈(M8 g c).flatten,AL.Met Tryz.prog f [H38 x,.one (.eref α ec cc v 0)] [] [] [] (fun rs ob'=>rs=[A67 (pr x)]∧ob'=[])) :
  AL.Met Tryz.prog 25 [.one (.p (.list Commit 3 G6 g)),M7 s,.one (.fncE f α ec cc v)] [] [] [] (fun rs ob'=>rs=[isS (L5 pr g s).1,M7 (L5 pr g s).2]∧ob'=[]):=by
 refine AL.Met.intro Tryz.func25 (by decide) J J J ?_
 refine k2 (A2 (A6 J J (A6 J J (A4 ?_))));refine k1 (k2 (A2 (A3 J J (A3 J J (A5 (C5 (c:=E4) (ys:=[s]) (E0 J J J J G5) J J J) J (D7 (J75 g s h) J J J ?_))))));rintro _ rfl;refine A3 J J (H0 J J J (H0 J J J (A6 J J (A6 J J (A4 ?_)))));refine k1 (k2 (k2 (A2 (A3 J J (A5 (R2 J J) J (A4 ?_))))));refine k1 ?_;refine B1 rfl (fun ht=>?_) (fun ht=>?_)
 ·have h3:(Q4 g s).2≠0:=A0 ht
  refine k2 (A2 (A3 J J (A5 (J5 _ 1 E4) J (A6 J J (A4 ?_)))));refine k1 (k10 (k11 ?_))
  exact E1 (RetOk.s2 (Z6 rfl rfl rfl rfl rfl)) (by repeat (first | exact A8 | refine A9 rfl ?_ | refine C2 _ ?_)) (ObIn.spec (ob':=[]) trivial) ⟨by unfold L5;rw [if_pos h3],rfl⟩
 have h3:¬(Q4 g s).2≠0:=A1 ht
 obtain ⟨hv,hrg,hnd⟩:Valid g∧(∀x∈(Q4 g s).1,0≤x∧x < (g.length:Int))∧(Q4 g s).1.Nodup:=by
  unfold Q4 at h3 ⊢
  split at h3
  ·rename_i hd;exact absurd hd h3
  ·rename_i hd
   rw [if_neg hd]
   have:=b9 (Decidable.not_not.1 hd)
   split
   ·exact ⟨this,(C11 g [s]).2,(C11 g [s]).1⟩
   ·exact ⟨this,(fun _ h=>by cases h),List.nodup_nil⟩
 have hres2:L5 pr g s=((Q4 g s).1.filter fun c=>T0 pr g c.toNat,0):=by unfold L5;rw [if_neg h3]
 rw [hres2]
 obtain ⟨O,hO⟩:∃O,O=(Q4 g s).1:=⟨_,rfl⟩
 rw [←hO] at hrg hnd ⊢
 have hOl:=b8 hnd hrg
 have hg:=h.few.len
 refine k5 (k1 (k2 (A2 (D1 (S9 10 _ E4 J) J (A4 ?_)))));refine k1 (k2 (k2 (A2 (A3 J J (E5 J J (A3 J J (A4 ?_)))))));refine k1 (k3 (D2 (X:=Nat) (fun k=>([(0,D3 Commit 3 G6 g),(2,.s (.one (.fncE f α ec cc v))),(10,.s (.one (.buf 10 Int 1 E4 ((O.take k).filter fun c=>T0 pr g c.toNat)))),(23,D3 Int 1 E4 O),(24,C3 O.length),(25,C3 k)],[(10,.spare ((O.take k).filter fun c=>T0 pr g c.toNat).length 1 3)])) (fun k=>k≤O.length) (fun k=>O.length - k) 0 (Nat.zero_le _) (Sees.of ⟨le1 rfl,le1 rfl,le1 rfl,le1 rfl,le1 rfl,le1 rfl,trivial⟩ ⟨rfl,trivial⟩) ?_))
 intro k hk
 dsimp only at hk ⊢
 have hfl:=List.length_filter_le (fun c:Int=>T0 pr g c.toNat) (O.take k)
 rw [K92] at hfl
 refine k2 (A2 (F3 J J J (A4 ?_)));refine k1 (k2 ?_);refine B1 rfl (fun ht=>?_) (fun ht=>?_)
 rotate_left
 ·have hke:k=O.length:=by have h1:=A1 ht;(try dsimp only at h1);omega
  rw [hke,K89]
  refine k6 (k2 (A2 (A3 J J (A6 J J (A6 J J (A4 ?_))))));refine k1 (k10 ?_)
  exact E1 (RetOk.s2 (Z6 rfl rfl rfl rfl rfl)) (by repeat (first | exact A8 | refine A9 rfl ?_ | refine C2 _ ?_)) (ObIn.spec (ob':=[]) trivial) ⟨rfl,rfl⟩
 have hklt:k < O.length:=by have h1:=A0 ht;(try dsimp only at h1);omega
 have hcr:=hrg _ (K85 hklt)
 obtain ⟨c,hc⟩:∃c:Nat,O[k]=(c:Int):=⟨O[k].toNat,by omega⟩
 have hvk:O[k]?=some (c:Int):=by rw [K82 hklt,hc]
 have hsn:(O.take (k+1)).filter (fun c=>T0 pr g c.toNat)=((O.take k).filter fun c=>T0 pr g c.toNat)++(if T0 pr g c=true then [(c:Int)] else []):=by
  rw [List.take_add_one,hvk,Option.toList_some,L32]
  congr 1
  rw [L26,K84];rfl
 obtain ⟨F,hF⟩:∃F,F=(O.take k).filter fun c=>T0 pr g c.toNat:=⟨_,rfl⟩
 rw [←hF] at hfl hsn ⊢
 have hB:=D52 h hv c
 have hfl2:=B39 hB (M8 g c).length
 unfold p6 at hfl2
 rw [K89] at hfl2
 have hfx:=hf hv c (by omega)
 have hap:=K38 pr g c
 refine k5 (k1 (k2 (k3 (k2 (A2 (A5 (B2 J (.pure _ _ _ _) J (by omega) hvk) J (A5 (B0 J J) J (A6 J J (A4 ?_)))))))));refine k1 (k2 (A2 (A3 J J (A3 J J (D7 (F87 g c h hv hs6 (by omega)) J J J ?_)))));rintro _ rfl;refine D7 (F49 (M8 g c) hB) J J J ?_;rintro _ rfl;refine A3 J J (B12 (D53 f α ec cc v pr (M8 g c).flatten (by omega) hfx) J J J J ?_);rintro _ _ ⟨rfl,rfl⟩;refine ⟨rfl,?_⟩;refine A4 ?_
 rw [hap]
 refine k1 ?_;refine B1 rfl (fun ht=>?_) (fun ht=>?_)
 ·rw [if_pos ht] at hsn
  skip
  refine A2 (A3 J J (A3 J J (A5 (C5 (c:=E4) (ys:=[(c:Int)]) (E0 J J J J G5) J J J) J (D1 (J7 J J J (.pure _ _ _ _) (by (simp only [K87,K90];omega)) J) J (A6 J J (A4 ?_))))));refine k4 (k1 (A2 (D6 J J J (A3 J J (A4 ?_)))));refine k1 ?_;refine ⟨k+1,by omega,by omega,?_⟩
  rw [hsn]
  exact (Sees.of ⟨le1 rfl,le1 rfl,le1 rfl,le1 rfl,le1 rfl,le1 rfl,trivial⟩ ⟨rfl,trivial⟩)
 ·rw [ht,if_neg (by decide),L10] at hsn
  refine k5 (k4 (k1 (A2 (D6 J J J (A3 J J (A4 ?_))))));refine k1 ?_;refine ⟨k+1,by omega,by omega,?_⟩
  rw [hsn]
  exact (Sees.of ⟨le1 rfl,le1 rfl,le1 rfl,le1 rfl,le1 rfl,le1 rfl,trivial⟩ ⟨rfl,trivial⟩)
theorem H47 (g:Graph) (s:Int) (nd:Str) (h:FewT g) (hs6:Short g) (hn:nd.length≤1073741824):FnOk Tryz.prog 21 [J8 g,F2 s,J6 nd] (fun rs=>rs=[K2 (x2 g s nd).1,F2 (x2 g s nd).2]):=by
 refine FnOk.intro Tryz.func21 (by decide) J J J J ?_
 refine k2 (A2 (A5 (n_boxE J J) J (A5 (J5 _ 1 E4) J (A6 J J (A4 ?_)))));refine k1 (k2 (k3 (k2 (A2 (A5 (B0 J J) J (A5 (c9 J J) J (A6 J J (A4 ?_))))))));refine k1 ?_;refine B1 rfl (fun ht=>?_) (fun ht=>?_)
 ·have h1:nd=[]:=A0 ht
  refine k2 (A2 (A5 (J5 _ 1 E4) J (A6 J J (A4 ?_))));refine k1 (k10 (k12 (k11 ?_)))
  exact B6 (rs:=[K2 [],F2 2]) (Z6 rfl rfl rfl rfl rfl) (by unfold x2;rw [if_pos h1])
 have h1:¬nd=[]:=A1 ht
 refine k2 (A2 (A5 (B0 J J) J (A5 (I6 J) J (A5 (N4 J J) J (A6 J J (A4 ?_))))));refine k1 ?_;refine B1 rfl (fun ht=>?_) (fun ht=>?_)
 ·have h2:(256:Int) < nd.length:=A0 ht
  refine k2 (A2 (A5 (J5 _ 1 E4) J (A6 J J (A4 ?_))));refine k1 (k10 (k12 (k11 ?_)))
  exact B6 (rs:=[K2 [],F2 1]) (Z6 rfl rfl rfl rfl rfl) (by unfold x2;rw [if_neg h1,if_pos (by omega)])
 have h2:¬(256:Int) < nd.length:=A1 ht
 have hres:x2 g s nd=L5 (differs nd) g s:=by unfold x2;rw [if_neg h1,if_neg (by omega)]
 rw [hres]
 refine k5 (k2 (A2 (A3 J J (A3 J J (A5 (D80 J) J ?_)))))
 refine B12 (D90 g s 33 Unit 1 (cE nd) () (differs nd) h hs6 (fun hv c hc x hx=>by
  obtain ⟨l,hl,hxl⟩:=List.mem_flatten.1 hx
  have hb:=(D52 h hv c).strs l hl x hxl
  exact K29 nd x hn hb.1 hb.2)) rfl rfl rfl rfl ?_
 rintro _ _ ⟨rfl,rfl⟩;refine ⟨rfl,?_⟩;refine H0 J J J (H0 J J J (A6 J J (A6 J J (A4 ?_))))
 refine k1 (k10 ?_)
 exact B6 (rs:=[K2 (L5 (differs nd) g s).1,F2 (L5 (differs nd) g s).2]) (Z6 rfl rfl rfl rfl rfl) rfl
theorem I53 (g:Graph) (c:Int) (nd:Str) (h:FewT g) (hs6:Short g) (hn:nd.length≤1073741824):FnOk Tryz.prog 22 [J8 g,F2 c,J6 nd] (fun rs=>rs=[K2 (x3 g c nd).1,F2 (x3 g c nd).2]):=by
 refine FnOk.intro Tryz.func22 (by decide) J J J J ?_
 refine k2 (A2 (A6 J J (A6 J J (A4 ?_))));refine k1 (k2 (k2 (A2 (A3 J J (A3 J J (D7 (J68 g c h hs6) J J J ?_))))));rintro _ ⟨_,rfl⟩;refine A3 J J (H0 J J J (H0 J J J (A6 J J (A6 J J (A4 ?_)))));refine k1 (k2 (A2 (A3 J J (A5 (R2 J J) J (A4 ?_)))));refine k1 ?_;refine B1 rfl (fun ht=>?_) (fun ht=>?_)
 ·have h1:m3 g c≠0:=A0 ht
  refine k2 (A2 (A3 J J (A5 (J5 _ 1 E4) J (A6 J J (A4 ?_)))));refine k1 (k10 (k11 ?_))
  exact B6 (rs:=[K2 [],F2 (m3 g c)]) (Z6 rfl rfl rfl rfl rfl) (by unfold x3;rw [if_pos h1])
 have h1:¬m3 g c≠0:=A1 ht
 obtain ⟨hv,hc0,hc1⟩:=D86 (Decidable.not_not.1 h1)
 obtain ⟨k,rfl⟩:∃k:Nat,c=(k:Int):=⟨c.toNat,by omega⟩
 have hres:x3 g (k:Int) nd=((M8 g k).map (c8 nd),0):=by unfold x3;rw [if_neg h1,K84]
 rw [hres]
 have hB:=D52 h hv k
 refine k5 (k1 (k2 (A2 (D1 (S9 10 _ E4 J) J (A4 ?_)))));refine k1 (k2 (k2 (A2 (A3 J J (A3 J J (D7 (F87 g k h hv hs6 (by omega)) J J J ?_))))));rintro _ rfl;refine E5 J J (A3 J J (A4 ?_))
 obtain ⟨B,hBd⟩:∃B,B=M8 g k:=⟨_,rfl⟩
 rw [←hBd] at hB ⊢
 have hBl:=hB.len
 refine k1 (k3 (D2 (X:=Nat) (fun p=>([(2,Y9 nd),(10,.s (.one (.buf 10 Int 1 E4 ((B.take p).map (c8 nd))))),(27,D3 (List (Str × Str)) 1 B02 B),(28,C3 B.length),(29,C3 p)],[(10,.spare ((B.take p).map (c8 nd)).length 1 3)])) (fun p=>p≤B.length) (fun p=>B.length - p) 0 (Nat.zero_le _) (Sees.of ⟨le1 rfl,le1 rfl,le1 rfl,le1 rfl,le1 rfl,trivial⟩ ⟨rfl,trivial⟩) ?_))
 intro p hp
 dsimp only at hp ⊢
 have hml:((B.take p).map (c8 nd)).length≤33:=by rw [L04,K92];omega
 refine k2 (A2 (F3 J J J (A4 ?_)));refine k1 (k2 ?_);refine B1 rfl (fun ht=>?_) (fun ht=>?_)
 rotate_left
 ·have hpe:p=B.length:=by have h1:=A1 ht;(try dsimp only at h1);omega
  rw [hpe,K89]
  refine k6 (k2 (A2 (A3 J J (A6 J J (A6 J J (A4 ?_))))));refine k1 (k10 ?_)
  exact B6 (rs:=[K2 (B.map (c8 nd)),F2 0]) (Z6 rfl rfl rfl rfl rfl) rfl
 have hplt:p < B.length:=by have h1:=A0 ht;(try dsimp only at h1);omega
 have hs:=H37 (nd:=nd) hplt
 obtain ⟨l,hl⟩:∃l,l=B[p]:=⟨_,rfl⟩
 have hvl:B[p]?=some l:=by rw [hl];simp [hplt]
 have hlm:l∈B:=by rw [hl];exact K85 hplt
 have hll:=hB.lens l hlm
 rw [←hl] at hs
 obtain ⟨S,hS⟩:∃S,S=(B.take p).map (c8 nd):=⟨_,rfl⟩
 rw [←hS] at hs hml ⊢
 refine k5 (k1 (k2 (k3 (k2 (A2 (A5 (B2 J (.pure _ _ _ _) J (by omega) hvl) J (A5 (B0 J J) J (A6 J J (A4 ?_)))))))));refine k1 (k2 (A2 (A6 J J (A4 ?_))));refine k1 (k2 (k2 (A2 (A3 J J (E5 J J (A3 J J (A4 ?_)))))));refine k1 (k3 (D2 (X:=Nat) (fun i=>([(2,Y9 nd),(10,.s (.one (.buf 10 Int 1 E4 S))),(13,C3 (c8 nd (l.take i))),(27,D3 (List (Str × Str)) 1 B02 B),(28,C3 B.length),(29,C3 p),(33,D3 (Str × Str) 2 A50 l),(34,C3 l.length),(35,C3 i)],[(10,.spare S.length 1 3)])) (fun i=>i≤l.length) (fun i=>l.length - i) 0 (Nat.zero_le _) (Sees.of ⟨le1 rfl,le1 rfl,le1 rfl,le1 rfl,le1 rfl,le1 rfl,le1 rfl,le1 rfl,le1 rfl,trivial⟩ ⟨rfl,trivial⟩) ?_))
 intro i hi
 dsimp only at hi ⊢
 refine k2 (A2 (F3 J J J (A4 ?_)));refine k1 (k2 ?_);refine B1 rfl (fun ht=>?_) (fun ht=>?_)
 ·have hilt:i < l.length:=by have h1:=A0 ht;(try dsimp only at h1);omega
  have hs2:=K28 (nd:=nd) hilt
  obtain ⟨x,hx⟩:∃x,x=l[i]:=⟨_,rfl⟩
  have hvx:l[i]?=some x:=by rw [hx];simp [hilt]
  have hxs:=hB.strs l hlm x (by rw [hx];exact K85 hilt)
  rw [←hx] at hs2
  have hsb:=E78 (nd:=nd) (l:=l.take i) fun y hy=>hB.strs l hlm y (List.mem_of_mem_take hy)
  rw [K92] at hsb
  have hc1:=D05 nd x.1 hxs.1
  have hc2:=D05 nd x.2 hxs.2
  obtain ⟨s0,hs0⟩:∃s0,s0=c8 nd (l.take i):=⟨_,rfl⟩
  obtain ⟨u1,hu1⟩:∃u1,u1=Z4 nd x.1:=⟨_,rfl⟩
  obtain ⟨u2,hu2⟩:∃u2,u2=Z4 nd x.2:=⟨_,rfl⟩
  have hmin:min i l.length≤400:=by omega
  have hsb1:-6710887200≤s0∧s0≤6710887200:=by rw [hs0];omega
  rw [←hu1] at hc1
  rw [←hu2] at hc2
  rw [←hs0,←hu1,←hu2] at hs2
  rw [←hs0]
  clear hsb
  have hr1:=C22 nd x.1 hn hxs.1
  have hr2:=C22 nd x.2 hn hxs.2
  rw [←hu1] at hr1
  rw [←hu2] at hr2
  refine k5 (k1 (k2 (k3 (k2 (A2 (A5 (B2 J (.pure _ _ _ _) J (by omega) hvx) J (A5 (E2 J J) J (D1 (I4 15 J) J (H1 (C1 TySz.out J J J J J J) (A4 ?_))))))))));refine k1 (E8 (by kernel_rfl) (by kernel_rfl) (E3 J J (E3 J J (B5 (N1 J J (by first | omega | decide) (by omega)) J J (B5 (C9 J J J) J J (B5 (O6 (hr2) J J) J J (E3 J J (B5 (N1 J J (by first | omega | decide) (by omega)) J J (B5 (C9 J J J) J J (B5 (O6 (hr1) J J) J J (B5 (L7 J J (by omega)) J J (B5 (X0 J J (by omega)) J J (B5 (I2 J J) J J (P2 ?_))))))))))))));refine k4 (k1 (A2 (D6 J J J (A3 J J (A4 ?_)))));refine k1 ?_;refine ⟨i+1,by omega,by omega,?_⟩
  rw [hs2]
  exact (Sees.of ⟨le1 rfl,le1 rfl,le1 rfl,le1 rfl,le1 rfl,le1 rfl,le1 rfl,le1 rfl,le1 rfl,trivial⟩ ⟨rfl,trivial⟩)
 ·have hie:i=l.length:=by have h1:=A1 ht;(try dsimp only at h1);omega
  rw [hie,K89]
  refine k6 (k7 (k7 (k8 J (k1 (A2 (A3 J J (A3 J J (A5 (C5 (c:=E4) (ys:=[c8 nd l]) (E0 J J J J G5) J J J) J (D1 (J7 J J J (.pure _ _ _ _) (by (simp only [K87,K90];omega)) J) J (A6 J J (A4 ?_)))))))))));refine k4 (k1 (A2 (D6 J J J (A3 J J (A4 ?_)))));refine k1 ?_;refine ⟨p+1,by omega,by omega,?_⟩
  rw [hs]
  exact (Sees.of ⟨le1 rfl,le1 rfl,le1 rfl,le1 rfl,le1 rfl,trivial⟩ ⟨rfl,trivial⟩)
end Go.Proofs.YtkahafmcmiiolaaGreatDoor
namespace Go.Proofs.YtkahafmcmiiolaaGreatDoor
open Go Go.AL
set_option maxRecDepth 100000
end Go.Proofs.YtkahafmcmiiolaaGreatDoor
namespace Go.Proofs.YtkahafmcmiiolaaGreatDoor
open Go Go.AL
set_option maxRecDepth 100000
set_option maxHeartbeats 1000000
end Go.Proofs.YtkahafmcmiiolaaGreatDoor
namespace Go.Proofs.YtkahafmcmiiolaaGreatDoor
open Go Go.AL
set_option maxRecDepth 100000
end Go.Proofs.YtkahafmcmiiolaaGreatDoor
namespace Go.Proofs.YtkahafmcmiiolaaGreatDoor
open Go Go.AL
set_option maxRecDepth 100000
end Go.Proofs.YtkahafmcmiiolaaGreatDoor
namespace Go.Proofs.YtkahafmcmiiolaaGreatDoor
open Go Go.AL
set_option maxRecDepth 100000
end Go.Proofs.YtkahafmcmiiolaaGreatDoor
namespace Go.Proofs.YtkahafmcmiiolaaGreatDoor
open Go Go.AL
set_option maxRecDepth 100000
end Go.Proofs.YtkahafmcmiiolaaGreatDoor
namespace Go.Proofs.YtkahafmcmiiolaaGreatDoor
open Go Go.AL
set_option maxRecDepth 100000
theorem check12_good {p:Patch} (h1:¬D20 p≠0):D64 p.Hunks=true:=by
 by_cases hg:D64 p.Hunks=true
 ·exact hg
 ·exfalso;apply h1;unfold D20;split
  ·decide
  ·rw [if_pos (by simpa using hg)];decide
end Go.Proofs.YtkahafmcmiiolaaGreatDoor
namespace Go.Proofs.YtkahafmcmiiolaaGreatDoor
open Go Go.AL
set_option maxRecDepth 100000
end Go.Proofs.YtkahafmcmiiolaaGreatDoor
namespace Go.Proofs.YtkahafmcmiiolaaGreatDoor
open Go Go.AL
set_option maxRecDepth 100000
end Go.Proofs.YtkahafmcmiiolaaGreatDoor
namespace Go.Proofs.YtkahafmcmiiolaaGreatDoor
open Go Go.AL
set_option maxRecDepth 100000
end Go.Proofs.YtkahafmcmiiolaaGreatDoor
namespace Go.Proofs.YtkahafmcmiiolaaGreatDoor
open Go Go.AL
set_option maxRecDepth 100000
theorem E91 (n:Int):FnOk Tryz.prog 106 [F2 n] (fun rs=>rs=[H9 (decide (O2 n))]):=by
 refine FnOk.intro Tryz.func106 (by decide) J J J J ?_
 refine k2 (A2 (A6 J J (A4 ?_)));refine k1 (k2 (A2 (A3 J J (A5 (V4 J J) J (A3 J J (B3 J J J J (fun hg=>by rw [hg];exact B9 J J) ?_))))));refine B3 J J J J (fun hg=>by rw [hg];exact B74 J J) ?_;refine K4 J J ?_;refine A6 J J (A4 ?_);refine k1 (k10 (B6 (H3 J J J) ?_))
 simp only [and_pick]
 rfl
theorem J76 {gf:Fr} {ob:Obs} (p:List Span):AL.Met Tryz.prog 140 [.one (.p (.list Span 2 spanC p))] gf ob [] (fun rs ob'=>rs=[.one (.full Span 2 spanC p)]∧ob'=ob):=by
 refine AL.Met.intro Tryz.func140 (by decide) J J J ?_
 refine k2 (A2 (A6 J J (A4 ?_)));refine k1 (k2 (A2 (A3 J J (A3 J J (E5 J J (A3 J J (E5 J J (A5 (I16 J (.pure _ _ _ _) J J (by omega) (by omega) (by first | rfl | omega)) J ?_))))))));refine A6 J J (A4 ?_)
 rw [show p.take (p.length:Int).toNat=p by simp]
 refine k1 (k10 ?_)
 exact E1 (I1 rfl rfl) (by repeat (first | exact A8 | refine A9 rfl ?_ | refine C2 _ ?_)) (fun _ _ h=>h) ⟨rfl,rfl⟩
def A68 (i j:Int):List Span→List Change
 | []=>[]
 | x::r=>(if x.From > i∨x.To > j then [⟨i,x.From - i,j,x.To - j⟩] else [])++A68 (x.From+1) (x.To+1) r
theorem D91 (m n:Int):∀(p:List Span) (i j:Int),A68 i j (p++[⟨m,n⟩])=V2 i j p m n
 | [],i,j=>by simp [A68,V2]
 | x::r,i,j=>by
  rw [L05,A68,V2,D91 m n r]
theorem F51 (p:List Span) (m n:Int) (hp:p.length≤536870912) (hm:-1099511627776≤m∧m≤1099511627776) (hn:-1099511627776≤n∧n≤1099511627776) (hb:∀s∈p,-1099511627776≤s.From∧s.From≤1099511627776 ∧ -1099511627776≤s.To∧s.To≤1099511627776) :
  FnOk Tryz.prog 107 [pSpans p,F2 m,F2 n] (fun rs=>rs=[pChanges (C05 p m n)]):=by
 refine FnOk.intro Tryz.func107 (by decide) J J J J ?_
 refine k2 (A2 (A6 J J (A4 ?_)));refine k1 (k2 (A2 (D1 (S9 7 _ changeC J) J (A4 ?_))));refine k1 (k2 (A2 (A6 J J (A6 J J (A4 ?_)))));refine k1 (k2 (k2 (A2 (A3 J J (G8 (J76 p) J J J ?_)))));rintro _ _ ⟨rfl,rfl⟩;refine A3 J J (A3 J J (A5 (J4 J) J (A5 (C5 (c:=spanC) (ys:=[⟨m,n⟩]) (E0 J J J J G5) J J J) J (D1 (F40 18 J J (.pure _ _ _ _) (by simp;omega) (by simp) J) J (A5 (Z2 J (.buf _ _ _ _ _)) J (A3 J J (A4 ?_)))))))
 obtain ⟨q,hq⟩:∃q,q=p++[(⟨m,n⟩:Span)]:=⟨_,rfl⟩
 have hql:q.length=p.length+1:=by rw [hq];simp
 have hqb:∀s∈q,-1099511627776≤s.From∧s.From≤1099511627776 ∧ -1099511627776≤s.To∧s.To≤1099511627776:=by
  intro s hs
  rw [hq] at hs
  rcases List.mem_append.1 hs with h | h
  ·exact hb s h
  ·simp at h;subst h;exact ⟨hm.1,hm.2,hn.1,hn.2⟩
 have hres:C05 p m n=A68 0 0 q:=by rw [hq,D91];rfl
 rw [←hq]
 refine k1 (k3 (D2 (X:=Nat × Int × Int × List Change) (fun x=>([(7,.s (.one (.buf 7 Change 4 changeC x.2.2.2))),(8,C3 x.2.1),(9,C3 x.2.2.1),(18,.s (.one (.buf 18 Span 2 spanC q))),(19,C3 q.length),(20,C3 x.1)],[(7,.spare x.2.2.2.length 4 91)])) (fun x=>x.1≤q.length∧x.2.2.2++A68 x.2.1 x.2.2.1 (q.drop x.1)=C05 p m n∧(-1099511627777≤x.2.1∧x.2.1≤1099511627777)∧(-1099511627777≤x.2.2.1∧x.2.2.1≤1099511627777)∧x.2.2.2.length≤x.1) (fun x=>q.length - x.1) (0,0,0,[]) ⟨Nat.zero_le _,hres.symm,by decide,by decide,Nat.le_refl _⟩ (Sees.of ⟨le1 rfl,le1 rfl,le1 rfl,le1 rfl,le1 rfl,le1 rfl,trivial⟩ ⟨rfl,trivial⟩) ?_))
 rintro ⟨k,i,j,out⟩ ⟨hk,he,hi,hj,hol⟩
 dsimp only at hk he hi hj hol ⊢
 refine k2 (A2 (F3 J J J (A4 ?_)));refine k1 (k2 ?_);refine B1 rfl (fun ht=>?_) (fun ht=>?_)
 ·have hlt:k < q.length:=by have:=A0 ht;omega
  have hv:q[k]?=some q[k]:=by simp [hlt]
  have hbk:=hqb _ (K85 hlt)
  obtain ⟨c,hc⟩:∃c,c=q[k]:=⟨_,rfl⟩
  rw [K91 hlt,A68] at he
  rw [←hc] at hv he hbk
  refine k5 (k1 (k2 (k3 (k2 (A2 (A5 (B2 J (.buf _ _ _ _ _) J (by omega) hv) J (A5 (E2 J J) J (D1 (I4 11 J) J (H1 (C1 TySz.out J J J J J J) (A4 ?_))))))))));refine R8 ?_
  obtain ⟨out',hout'⟩:∃out',out'=out++(if c.From > i∨c.To > j then [⟨i,c.From - i,j,c.To - j⟩] else []):=⟨_,rfl⟩
  have hol':out'.length≤k+1:=by rw [hout',K86];split<;>simp<;>omega
  rw [←K96,←hout'] at he
  refine E48 [(7,.s (.one (.buf 7 Change 4 changeC out'))),(8,C3 i),(9,C3 j),(11,.s (.one (.ref 11 0))),(18,.s (.one (.buf 18 Span 2 spanC q))),(19,C3 q.length),(20,C3 k)] [(7,.spare out'.length 4 91),(11,.box [.p (.v (.int .i64 c.From)),.p (.v (.int .i64 c.To))])] ?_ ?_
  ·refine k2 (A2 (A5 (A7 J) J (G7 J J J J (A3 J J (A5 (N4 J J) J (A3 J J (B3 J J J J (fun hg=>by rw [hg];exact A7 J) ?_)))))));refine B3 J J J J (fun hg=>by rw [hg];exact C9 J J J) ?_;refine B3 J J J J (fun hg=>by rw [hg];exact B9 J J) ?_;refine B3 J J J J (fun hg=>by rw [hg];exact N4 J J) ?_;refine K4 J J ?_;refine A4 ?_;refine k1 ?_;refine B1 rfl (fun ht=>?_) (fun ht=>?_)
   ·simp only [or_pick] at ht
    have h1:=A0 ht
    rw [if_pos h1] at hout'
    skip
    refine A2 (A3 J J (A3 J J (A5 (A7 J) J (G7 J J J J (A3 J J (A5 (L7 J J (by omega)) J (A3 J J (A5 (A7 J) J (G7 J J J J (A3 J J (A5 (L7 J J (by omega)) J (A5 (J4 J) J (A5 (C5 (c:=changeC) (ys:=[⟨i,c.From - i,j,c.To - j⟩]) (E0 J J J J G5) J J J) J (D1 (J7 J J J (.pure _ _ _ _) (by (simp only [K87,K90];omega)) J) J (A6 J J (A4 ?_))))))))))))))));refine k1 ?_
    rw [hout']
    exact Sees.of ⟨le1 rfl,le1 rfl,le1 rfl,le1 rfl,le1 rfl,le1 rfl,le1 rfl,trivial⟩ ⟨rfl,rfl,trivial⟩
   ·simp only [or_pick] at ht
    have h1:=A1 ht
    rw [if_neg h1,L10] at hout'
    refine k5 (k1 ?_)
    rw [hout']
    exact Sees.of ⟨le1 rfl,le1 rfl,le1 rfl,le1 rfl,le1 rfl,le1 rfl,le1 rfl,trivial⟩ ⟨rfl,rfl,trivial⟩
  ·skip
   refine E8 (by kernel_rfl) (by kernel_rfl) (B5 (A7 J) J J (B5 (C9 J J J) J J (B5 (X0 J J (by omega)) J J (B5 (A7 J) J J (B5 (C9 J J J) J J (B5 (X0 J J (by omega)) J J (B5 (I2 J J) J J (B5 (I2 J J) J J (P2 ?_)))))))));refine k4 (k1 (A2 (D6 J J J (A3 J J (A4 ?_)))));refine k1 ?_
   exact ⟨(k+1,c.From+1,c.To+1,out'),⟨by dsimp only;omega,he,⟨by dsimp only;omega,by dsimp only;omega⟩,⟨by dsimp only;omega,by dsimp only;omega⟩,by dsimp only;omega⟩,by dsimp only;omega,Sees.of ⟨le1 rfl,le1 rfl,le1 rfl,le1 rfl,le1 rfl,le1 rfl,trivial⟩ ⟨rfl,trivial⟩⟩
 ·have hk':k=q.length:=by have:=A1 ht;omega
  rw [hk',L00 (Nat.le_refl _),A68,L10] at he
  refine k6 (k2 (A2 (A3 J J (A6 J J (A4 ?_)))));refine k1 (k10 ?_)
  exact B6 (H3 rfl rfl rfl) (by rw [←he])
theorem H48 {m n:Int}:∀{p:List Span} {i j:Int},Asc m n i j p→∀k (h:k < p.length),(k=0→i≤p[k].From∧j≤p[k].To)∧(∀h0:0 < k,p[k - 1].From < p[k].From∧p[k - 1].To < p[k].To)∧p[k].From < m∧p[k].To < n
 | [],_,_,_,k,h=>by simp at h
 | x::r,i,j,ha,k,h=>by
  obtain ⟨h1,h2,h3⟩:=ha
  cases k with
  | zero=>have:=h3.le;exact ⟨fun _=>⟨h1,h2⟩,fun h0=>absurd h0 (by omega),by show x.From < m;omega,by show x.To < n;omega⟩
  | succ k =>
   obtain ⟨g1,g2,g3,g4⟩:=H48 h3 k (by simpa using h)
   refine ⟨fun h0=>absurd h0 (by omega),fun _=>?_,by simpa using g3,by simpa using g4⟩
   cases k with
   | zero =>
    obtain ⟨q1,q2⟩:=g1 rfl
    have hr:0 < r.length:=by simpa using h
    show x.From < r[0].From∧x.To < r[0].To
    omega
   | succ k=>simpa using g2 (by omega)
theorem F52 (p:List Span) (m n:Int) (hm:O2 m) (hn:O2 n) (ha:Asc m n 0 0 p) (hp:p.length≤536870912) :
  FnOk Tryz.prog 75 [pSpans p,F2 m,F2 n] (fun rs=>rs=[pChanges (C05 p m n),F2 0]):=by
 obtain ⟨hm1,hm2⟩:=hm
 obtain ⟨hn1,hn2⟩:=hn
 have hst:=H48 ha
 have hb:∀s∈p,0≤s.From∧s.From≤4096∧0≤s.To∧s.To≤4096:=by
  have key:∀(p:List Span) (i j:Int),Asc m n i j p→0≤i→0≤j→∀s∈p,0≤s.From∧s.From≤4096∧0≤s.To∧s.To≤4096:=by
   intro p
   induction p with
   | nil=>intro _ _ _ _ _ s hs;simp at hs
   | cons x r ih =>
    rintro i j ⟨h1,h2,h3⟩ h4 h5 s hs
    have:=h3.le
    rcases List.mem_cons.1 hs with rfl | hs
    ·omega
    ·exact ih _ _ h3 (by omega) (by omega) s hs
  exact key p 0 0 ha (by omega) (by omega)
 refine FnOk.intro Tryz.func75 (by decide) J J J J ?_
 refine k2 (A2 (A6 J J (A6 J J (A4 ?_))));refine k1 (k2 (k2 (A2 (A3 J J (D7 (E91 m) J J J ?_)))));rintro _ rfl;refine A5 (Q8 J) J (A3 J J (B3 J J J J (fun hg=>by rw [hg];exact B9 J J) ?_));refine B3 J J J J (fun hg=>by have hq:=hg;(try simp at hq);rw [hg];exact O6 (E91 n) J J) ?_;refine B3 J J J J (fun hg=>by rw [hg];exact Q8 J) ?_;refine K4 J J ?_;refine A4 ?_;refine k1 ?_;refine B1 rfl (fun ht=>?_) (fun ht=>?_)
 ·exfalso
  simp only [←decide_not,or_pick] at ht
  have h:¬O2 m∨¬O2 n:=A0 ht
  rcases h with h | h
  ·exact h ⟨hm1,hm2⟩
  ·exact h ⟨hn1,hn2⟩
 refine A58 [(0,D3 Span 2 spanC p),(1,C3 m),(2,C3 n)] [] (Sees.of ⟨le1 rfl,le1 rfl,le1 rfl,trivial⟩ trivial) ?_
 refine k5 (k1 (k2 (A2 (A5 (J4 J) J (D1 (I4 8 J) J (H1 (C1 TySz.out J J J J J J) (A4 ?_)))))));refine k1 (k2 (k2 (A2 (A3 J J (E5 J J (A3 J J (A4 ?_)))))));refine k1 (k3 ?_)
 obtain ⟨lastOf,hlast⟩:∃lastOf:Nat→Span,lastOf=fun k=>if k=0 then ⟨-1,-1⟩ else p.getD (k - 1) ⟨0,0⟩:=⟨_,rfl⟩
 refine D2 (X:=Nat) (fun k=>([(0,D3 Span 2 spanC p),(1,C3 m),(2,C3 n),(8,.s (.one (.ref 8 0))),(20,D3 Span 2 spanC p),(21,C3 p.length),(22,C3 k)],[(8,.box [.p (.v (.int .i64 (lastOf k).From)),.p (.v (.int .i64 (lastOf k).To))])])) (fun k=>k≤p.length) (fun k=>p.length - k) 0 (Nat.zero_le _) ?_ ?_
 ·rw [show lastOf 0=⟨-1,-1⟩ by rw [hlast];rfl]
  exact Sees.of ⟨le1 rfl,le1 rfl,le1 rfl,le1 rfl,le1 rfl,le1 rfl,le1 rfl,trivial⟩ ⟨rfl,trivial⟩
 intro k hk
 dsimp only at hk ⊢
 refine k2 (A2 (F3 J J J (A4 ?_)));refine k1 (k2 ?_);refine B1 rfl (fun ht=>?_) (fun ht=>?_)
 ·have hlt:k < p.length:=by have:=A0 ht;omega
  have hv:p[k]?=some p[k]:=by simp [hlt]
  obtain ⟨g1,g2,g3,g4⟩:=hst k hlt
  have hnext:lastOf (k+1)=p[k]:=by rw [hlast];simp [hlt]
  have hless:(lastOf k).From < p[k].From∧(lastOf k).To < p[k].To:=by
   rw [hlast]
   by_cases h0:k=0
   ·have:=g1 h0
    simp only [h0,if_true] at this ⊢
    omega
   ·have:=g2 (by omega)
    simp only [h0,if_false]
    have e:p.getD (k - 1) ⟨0,0⟩=p[k - 1]:=by simp [show k - 1 < p.length by omega]
    rw [e];exact this
  obtain ⟨c,hc⟩:∃c,c=p[k]:=⟨_,rfl⟩
  rw [←hc] at hv g3 g4 hnext hless
  obtain ⟨la,hla⟩:∃la,la=lastOf k:=⟨_,rfl⟩
  rw [←hla] at hless ⊢
  refine k5 (k1 (k2 (k3 (k2 (A2 (A5 (B2 J (.pure _ _ _ _) J (by omega) hv) J (A5 (E2 J J) J (D1 (I4 10 J) J (H1 (C1 TySz.out J J J J J J) (A4 ?_))))))))));refine k1 (k2 (k2 (A2 (A5 (A7 J) J (G7 J J J J (A5 (A7 J) J (G7 J J J J (A5 (B74 J J) J (A3 J J (B3 J J J J (fun hg=>by rw [hg];exact A7 J) ?_))))))))));refine B3 J J J J (fun hg=>by rw [hg];exact C9 J J J) ?_;refine B3 J J J J (fun hg=>by rw [hg];exact B9 J J) ?_;refine B3 J J J J (fun hg=>by rw [hg];exact V4 J J) ?_;refine K4 J J ?_;refine A3 J J (B3 J J J J (fun hg=>by rw [hg];exact A7 J) ?_);refine B3 J J J J (fun hg=>by rw [hg];exact C9 J J J) ?_;refine B3 J J J J (fun hg=>by rw [hg];exact A7 J) ?_;refine B3 J J J J (fun hg=>by rw [hg];exact C9 J J J) ?_;refine B3 J J J J (fun hg=>by rw [hg];exact B74 J J) ?_;refine K4 J J ?_;refine A3 J J (B3 J J J J (fun hg=>by rw [hg];exact A7 J) ?_);refine B3 J J J J (fun hg=>by rw [hg];exact C9 J J J) ?_;refine B3 J J J J (fun hg=>by rw [hg];exact B9 J J) ?_;refine B3 J J J J (fun hg=>by rw [hg];exact V4 J J) ?_;refine K4 J J ?_;refine A4 ?_;refine k1 ?_;refine B1 rfl (fun ht=>?_) (fun ht=>?_)
  ·exfalso
   simp only [or_pick] at ht
   have:=A0 ht
   omega
  ·refine k5 (k1 (A2 (A5 (M6 J J J) J (H1 (C1 TySz.out J J J J J J) (A4 ?_)))));refine k4 (k1 (A2 (D6 J J J (A3 J J (A4 ?_)))));refine k1 ?_;refine ⟨k+1,by omega,by omega,?_⟩
   rw [hnext]
   exact Sees.of ⟨le1 rfl,le1 rfl,le1 rfl,le1 rfl,le1 rfl,le1 rfl,le1 rfl,trivial⟩ ⟨rfl,trivial⟩
 ·refine k6 (k2 (A2 (A3 J J (A3 J J (A3 J J (D7 (F51 p m n hp (by omega) (by omega) (fun s hs=>by have:=hb s hs;omega)) J J J ?_))))));rintro _ rfl;refine A6 J J (A6 J J (A4 ?_));refine k1 (k10 ?_)
  exact B6 (Z6 rfl rfl rfl rfl rfl) rfl
theorem D08 {l:List Int} {i:Nat} (h:i < l.length):l[i]?=some (l.getD i 0):=by simp [h]
theorem H49 (a b:List Int):FnOk Tryz.prog 74 [K2 a,K2 b] (fun rs=>rs=[H9 (decide ((a.length:Int)≤4096∧(b.length:Int)≤4096))]):=by
 refine FnOk.intro Tryz.func74 (by decide) J J J J ?_
 refine k2 (A2 (A6 J J (A4 ?_)));refine k1 (k2 (A2 (A3 J J (E5 J J (A5 (B74 J J) J (A3 J J (B3 J J J J (fun hg=>by rw [hg];exact B9 J J) ?_)))))));refine B3 J J J J (fun hg=>by rw [hg];exact Z2 J (.pure _ _ _ _)) ?_;refine B3 J J J J (fun hg=>by rw [hg];exact B74 J J) ?_;refine K4 J J ?_;refine A6 J J (A4 ?_);refine k1 (k10 ?_)
 exact B6 (H3 rfl rfl rfl) (by simp only [and_pick])
theorem F53 (a b:List Int) (ha:a.length≤1073741824):FnOk Tryz.prog 108 [K2 a,K2 b] (fun rs=>rs=[F2 (X3 a b)]):=by
 refine FnOk.intro Tryz.func108 (by decide) J J J J ?_
 refine k2 (A2 (A6 J J (A4 ?_)));refine k1 (k2 (A2 (A6 J J (A4 ?_))));refine k1 (k2 (k3 (D2 (X:=Nat) (fun k=>([(0,D3 Int 1 E4 a),(1,D3 Int 1 E4 b),(5,C3 k)],[])) (fun k=>k≤a.length∧k≤b.length∧X3 a b=k+X3 (a.drop k) (b.drop k)) (fun k=>a.length - k) 0 ⟨Nat.zero_le _,Nat.zero_le _,by simp⟩ (Sees.of ⟨le1 rfl,le1 rfl,le1 rfl,trivial⟩ trivial) ?_)))
 rintro k ⟨hk,hk2,he⟩
 dsimp only at hk hk2 he ⊢
 refine k2 (k2 (E8 (by kernel_rfl) (by kernel_rfl) (E3 J J (E3 J J (B5 (Z2 J (.pure _ _ _ _)) J J (B5 (B08 J J) J J (E3 J J (F5 J J (fun hg=>by rw [hg];exact B9 J J) J J ?_))))))));refine F5 J J (fun hg=>by rw [hg];exact B9 J J) J J ?_;refine F5 J J (fun hg=>by rw [hg];exact Z2 J (.pure _ _ _ _)) J J ?_;refine F5 J J (fun hg=>by rw [hg];exact B08 J J) J J ?_;refine B5 (N6 J (fun h=>by first | rfl | (rw [h];rfl)) (fun h=>by first | rfl | (rw [h];rfl))) J J ?_;refine E3 J J (F5 J J (fun hg=>by rw [hg];exact B9 J J) J J ?_);refine F5 J J (fun hg=>by rw [hg];exact B9 J J) J J ?_;refine F5 J J (fun hg=>by have hq:=hg;(try simp at hq);rw [hg];exact B2 J (.pure _ _ _ _) J (by omega) (D08 (by omega))) J J ?_;refine F5 J J (fun hg=>by rw [hg];exact B0 J J) J J ?_;refine F5 J J (fun hg=>by rw [hg];exact B9 J J) J J ?_;refine F5 J J (fun hg=>by rw [hg];exact B9 J J) J J ?_;refine F5 J J (fun hg=>by have hq:=hg;(try simp at hq);rw [hg];exact B2 J (.pure _ _ _ _) J (by omega) (D08 (by omega))) J J ?_;refine F5 J J (fun hg=>by rw [hg];exact B0 J J) J J ?_;refine F5 J J (fun hg=>by rw [hg];exact F7 J J) J J ?_;refine B5 (N6 J (fun h=>by first | rfl | (rw [h];rfl)) (fun h=>by first | rfl | (rw [h];rfl))) J J ?_;refine P2 ?_;refine k1 ?_;refine B1 rfl (fun ht=>?_) (fun ht=>?_)
 ·simp only [and_pick] at ht
  obtain ⟨⟨h1,h2⟩,h3⟩:=A0 ht
  have h1:k < a.length:=by omega
  have h2:k < b.length:=by omega
  rw [F20 a b k h1 h2,if_pos (by simpa [h1,h2] using h3)] at he
  refine k5 (k1 (k3 (A2 (A3 J J (D6 J J J (A6 J J (A4 ?_)))))));refine k4 (k1 ?_)
  exact ⟨k+1,⟨by omega,by omega,by omega⟩,by omega,Sees.of ⟨le1 rfl,le1 rfl,le1 rfl,trivial⟩ trivial⟩
 ·simp only [and_pick] at ht
  have h:=A1 ht
  have h0:X3 (a.drop k) (b.drop k)=0:=by
   by_cases hc:k < a.length∧k < b.length
   ·obtain ⟨h1,h2⟩:=hc
    rw [F20 a b k h1 h2,if_neg]
    intro h3
    exact h ⟨⟨by omega,by omega⟩,by simpa [h1,h2] using h3⟩
   ·exact K00 a b k hc
  rw [h0] at he
  refine k6 (k2 (A2 (A3 J J (A6 J J (A4 ?_)))));refine k1 (k10 ?_)
  exact B6 (H3 rfl rfl rfl) (by rw [he];rfl)
theorem F54 (a b:List Int) (ha:a.length≤4096) (hb:b.length≤4096):FnOk Tryz.prog 109 [K2 a,K2 b] (fun rs=>rs=[pU16s (flat a b (fun _ _=>true))]):=by
 obtain ⟨W,hW⟩:∃W,W=b.length+1:=⟨_,rfl⟩
 have hmul:∀i:Nat,i≤a.length+1→0≤(i:Int)*(W:Int)∧(i:Int)*(W:Int)≤16789506:=by
  intro i hi
  have h1:i*W≤4098*4097:=Nat.mul_le_mul (by omega) (by omega)
  have h2:((i*W:Nat):Int)=(i:Int)*W:=by push_cast;rfl
  omega
 have hcast:∀i:Nat,(i:Int)*(W:Int)=((i*W:Nat):Int):=fun i=>by push_cast;rfl
 have hlen:∀done,(flat a b done).length=(a.length+1)*W:=fun done=>by rw [E08,hW]
 have hdl:∀i j,dist (a.drop i) (b.drop j)≤8192:=fun i j=>by
  have:=G69 (a.drop i) (b.drop j)
  simp only [K99] at this
  omega
 have hin:∀i j:Nat,i≤a.length→j≤b.length→i*W+j < (a.length+1)*W:=fun i j hi hj=>by rw [hW];exact (E37 hi hj).1
 refine FnOk.intro Tryz.func109 (by decide) J J J J ?_
 refine k2 (A2 (A6 J J (A4 ?_)));refine k1 (k2 (A2 (A3 J J (E5 J J (D6 J J J (A6 J J (A4 ?_)))))));refine R8 ?_
 refine A58 [(0,D3 Int 1 E4 a),(1,D3 Int 1 E4 b),(5,C3 W)] [] (Sees.of ⟨⟨_,rfl,.same _⟩,⟨_,rfl,.same _⟩,⟨_,rfl,.eq (by rw [hW];simp)⟩,trivial⟩ trivial) ?_
 have hm1:=hmul (a.length+1) (Nat.le_refl _)
 have e1:((a.length:Int)+1)=((a.length+1:Nat):Int):=by omega
 refine k2 (A2 (A3 J J (E5 J J (D6 J J J (A3 J J (A5 (A34 J J (by (rw [e1];omega))) J ?_))))));refine D1 (o5 20 Int C82 0 J J (by (rw [e1];omega)) (by (rw [e1];omega)) (fun _=>by first | exact ⟨⟨rfl,rfl⟩,trivial⟩ | exact ⟨H8 _ _ _,trivial⟩ | exact ⟨H8 _ _ _,⟨rfl,rfl⟩,H8 _ _ _,trivial⟩) J) J ?_;refine A6 J J (A4 ?_);refine R8 ?_
 refine A58 [(0,D3 Int 1 E4 a),(1,D3 Int 1 E4 b),(5,C3 W),(6,.s (.one (.mut 20)))] [(20,.arr Int 1 C82 (flat a b (fun _ _=>false)))] ?_ ?_
 ·refine Sees.of ⟨⟨_,rfl,.same _⟩,⟨_,rfl,.same _⟩,⟨_,rfl,.same _⟩,⟨_,rfl,.same _⟩,trivial⟩ ⟨?_,trivial⟩
  rw [←J99,e1,hcast,K84,hW];rfl
 refine k2 (k2 (A2 (A3 J J (E5 J J (A3 J J (A4 ?_))))));refine k1 (k3 ?_);refine D2 (X:=Nat) (fun j=>([(0,D3 Int 1 E4 a),(1,D3 Int 1 E4 b),(5,C3 W),(6,.s (.one (.mut 20))),(22,C3 b.length),(23,C3 j)],[(20,.arr Int 1 C82 (flat a b (fun r q=>decide (r=a.length∧q < j))))])) (fun j=>j≤b.length) (fun j=>b.length - j) 0 (Nat.zero_le _) ?_ ?_
 ·rw [show flat a b (fun r q=>decide (r=a.length∧q < 0))=flat a b (fun _ _=>false) from B58 fun r q _ _=>.inl (by simp)]
  exact Sees.of ⟨le1 rfl,le1 rfl,le1 rfl,le1 rfl,le1 rfl,le1 rfl,trivial⟩ ⟨rfl,trivial⟩
 intro j hj
 dsimp only at hj ⊢
 refine k2 (A2 (F3 J J J (A4 ?_)));refine k1 (k2 ?_);refine B1 rfl (fun ht=>?_) (fun ht=>?_)
 ·have hlt:j < b.length:=by have:=A0 ht;omega
  have hmm:=hmul a.length (by omega)
  have hix:=hin a.length j (Nat.le_refl _) (by omega)
  have hc1:=hcast a.length
  have hL:=hlen (fun r q=>decide (r=a.length∧q < j))
  have hst:(flat a b (fun r q=>decide (r=a.length∧q < j))).set (((a.length:Int)*(W:Int)+(j:Int)).toNat) (IntKind.u16.wrap ((b.length:Int) - j))=flat a b (fun r q=>decide (r=a.length∧q < j+1)):=by
   rw [show ((a.length:Int)*(W:Int)+(j:Int)).toNat=a.length*(b.length+1)+j by rw [hc1,hW];omega,I88 _ (by omega)]
   refine H79 (Nat.le_refl _) (by omega) ?_ (by simp) (fun r q hr hq hne=>?_)
   ·rw [L00 (Nat.le_refl a.length),dist,K99];omega
   ·rw [decide_eq_decide];omega
  refine k5 (k1 (k2 (k3 (k2 (A2 (A3 J J (A6 J J (A4 ?_))))))));refine k1 (A2 (A3 J J (A3 J J (E5 J J (A3 J J (A5 (A34 J J (by omega)) J (A3 J J (D6 J J J (A3 J J (E5 J J (A3 J J (A5 (L7 J J (by omega)) J (A5 (V8 J) J (A5 (G4 J J J (by omega) (by (rw [hL];omega))) J ?_))))))))))))));refine H1 (K9 TySz.out J J (by (rw [hL];omega)) J J) ?_;refine A4 ?_;refine k4 (k1 (A2 (D6 J J J (A3 J J (A4 ?_)))));refine k1 ?_;refine ⟨j+1,by omega,by omega,?_⟩
  rw [←hst]
  exact Sees.of ⟨le1 rfl,le1 rfl,le1 rfl,le1 rfl,le1 rfl,le1 rfl,trivial⟩ ⟨rfl,trivial⟩
 ·have hj':j=b.length:=by have:=A1 ht;omega
  subst hj'
  rw [show flat a b (fun r q=>decide (r=a.length∧q < b.length))=flat a b (fun r _=>decide (a.length≤r)) from B58 fun r q hr hq=>by
   by_cases h:r=a.length∧q=b.length
   ·right;rw [h.1,h.2,L00 (Nat.le_refl _),L00 (Nat.le_refl _)];exact D16 []
   ·left;rw [decide_eq_decide];omega]
  refine k6 (k2 (k2 (A2 (A3 J J (E5 J J (A5 (L7 J J (by omega)) J (A6 J J (A4 ?_))))))));refine k1 (k3 (D2 (X:=Nat) (fun i=>([(0,D3 Int 1 E4 a),(1,D3 Int 1 E4 b),(5,C3 W),(6,.s (.one (.mut 20))),(8,C3 ((i:Int) - 1))],[(20,.arr Int 1 C82 (flat a b (fun r _=>decide (i≤r))))])) (fun i=>i≤a.length) (fun i=>i) a.length (Nat.le_refl _) (Sees.of ⟨le1 rfl,le1 rfl,le1 rfl,le1 rfl,le1 rfl,trivial⟩ ⟨rfl,trivial⟩) ?_))
  intro i hi
  dsimp only at hi ⊢
  refine k2 (k2 (A2 (A3 J J (A5 (V4 J J) J (A4 ?_)))));refine k1 ?_;refine B1 rfl (fun ht=>?_) (fun ht=>?_)
  ·obtain ⟨i,rfl⟩:∃r,i=r+1:=⟨i - 1,by have:=A0 ht;omega⟩
   refine A58 [(0,D3 Int 1 E4 a),(1,D3 Int 1 E4 b),(5,C3 W),(6,.s (.one (.mut 20))),(8,C3 i)] [(20,.arr Int 1 C82 (flat a b (fun r _=>decide (i+1≤r))))] (Sees.of ⟨le1 rfl,le1 rfl,le1 rfl,le1 rfl,leE J (by first | (simp;done) | (simp;omega)),trivial⟩ ⟨rfl,trivial⟩) ?_
   obtain ⟨P,hP⟩:∃P,P=i*W:=⟨_,rfl⟩
   obtain ⟨N,hN⟩:∃N,N=(a.length+1)*W:=⟨_,rfl⟩
   have c0:(i:Int)*(W:Int)=(P:Int):=by rw [hP];exact hcast i
   have c1:((i:Int)+1)*(W:Int)=(P:Int)+W:=by rw [Int.add_mul,Int.one_mul,c0]
   have c2:((i:Int)+2)*(W:Int)=(P:Int)+W+W:=by rw [Int.add_mul,c0];omega
   have hPN:P+W+W≤N:=by
    have h1:(i+2)*W≤(a.length+1)*W:=K94 _ (by omega)
    have h2:(i+2)*W=i*W+W+W:=by rw [L03];omega
    omega
   have hN2:N≤16789506:=by have:=hmul (a.length+1) (Nat.le_refl _);have:=hcast (a.length+1);omega
   have hL:∀done,(flat a b done).length=N:=fun done=>by rw [hlen,hN]
   refine k5 (k1 (k2 (k3 (k2 (E8 (by kernel_rfl) (by kernel_rfl) (E3 J J (E3 J J (E3 J J (B5 (A34 J J (by (rw [c0];omega))) J J ?_)))))))));refine E3 J J (B5 (X0 J J (by omega)) J J (E3 J J (B5 (A34 J J (by (rw [c1];omega))) J J ?_)));refine B5 (B82 J J J J (by (first | (rw [c0];omega) | (rw [c0,c1];omega) | (rw [c1,hL];omega))) (by (first | (rw [c0];omega) | (rw [c0,c1];omega) | (rw [c1,hL];omega))) (by (first | (rw [c0];omega) | (rw [c0,c1];omega) | (rw [c1,hL];omega)))) J J ?_;refine E3 J J (E3 J J (B5 (X0 J J (by omega)) J J (E3 J J (B5 (A34 J J (by (rw [c1];omega))) J J ?_))));refine E3 J J (B5 (X0 J J (by omega)) J J (E3 J J (B5 (A34 J J (by (rw [c2];omega))) J J ?_)));refine B5 (B82 J J J J (by (first | (rw [c1];omega) | (rw [c1,c2];omega) | (rw [c2,hL];omega))) (by (first | (rw [c1];omega) | (rw [c1,c2];omega) | (rw [c2,hL];omega))) (by (first | (rw [c1];omega) | (rw [c1,c2];omega) | (rw [c2,hL];omega)))) J J ?_;refine B5 (I2 J J) J J (B5 (I2 J J) J J (P2 ?_));refine R8 ?_
   have hdone:∀j,j≤b.length→(flat a b (fun r q=>decide (i+1≤r∨(r=i∧j≤q))))[P+j]?=some (dist (a.drop i) (b.drop j):Int):=fun j hj=>by
    rw [hP,hW,F19 (by omega) hj,if_pos (by simp)]
   have hbelow:∀j j',j≤b.length→(flat a b (fun r q=>decide (i+1≤r∨(r=i∧j'≤q))))[P+W+j]?=some (dist (a.drop (i+1)) (b.drop j):Int):=fun j j' hj=>by
    rw [show P+W+j=(i+1)*(b.length+1)+j by rw [hP,hW,L03];omega,F19 (by omega) hj,if_pos (by simp)]
   refine A58 [(0,D3 Int 1 E4 a),(1,D3 Int 1 E4 b),(5,C3 W),(6,.s (.one (.mut 20))),(8,C3 i),(9,.s (.one (.msl 20 1 P W))),(10,.s (.one (.msl 20 1 (P+W) W)))] [(20,.arr Int 1 C82 (flat a b (fun r _=>decide (i+1≤r))))] ?_ ?_
   ·refine Sees.of ⟨⟨_,rfl,.same _⟩,⟨_,rfl,.same _⟩,⟨_,rfl,.same _⟩,⟨_,rfl,.same _⟩,⟨_,rfl,.same _⟩,⟨_,rfl,.eq ?_⟩,⟨_,rfl,.eq ?_⟩,trivial⟩ ⟨rfl,trivial⟩
    ·rw [c0,c1];congr 3<;>omega
    ·rw [c1,c2];congr 3<;>omega
   have hset:∀(done done':Nat→Nat→Bool) (j:Nat) (v:Int),j≤b.length→v=(dist (a.drop i) (b.drop j):Int)→done' i j=true→(∀r q,r≤a.length→q≤b.length→¬(r=i∧q=j)→done' r q=done r q)→(flat a b done).set (P+j) v=flat a b done':=by
    intro done done' j v hj hv h1 h2
    rw [hP,hW];exact H79 (by omega) hj hv h1 h2
   have hs0:(flat a b (fun r _=>decide (i+1≤r))).set (P+((b.length:Nat):Int).toNat) (IntKind.u16.wrap ((a.length:Int) - i))=flat a b (fun r q=>decide (i+1≤r∨(r=i∧b.length≤q))):=by
    rw [K84,I88 _ (by omega)]
    refine hset _ _ _ _ (Nat.le_refl _) ?_ (by simp) (fun r q hr hq hne=>?_)
    ·rw [L00 (Nat.le_refl b.length),D16,K99];omega
    ·rw [decide_eq_decide];omega
   refine k2 (A2 (A3 J J (A3 J J (E5 J J (A3 J J (E5 J J (A3 J J (A5 (L7 J J (by omega)) J (A5 (V8 J) J (A5 (T6 J J (by omega) (by omega)) J (H1 (K9 TySz.out J J (by (rw [hL];omega)) J J) ?_)))))))))));refine A4 ?_
   rw [hs0]
   refine k1 (k2 (A2 (A3 J J (E5 J J (A5 (L7 J J (by omega)) J (A6 J J (A4 ?_)))))));refine k1 (k3 (D2 (X:=Nat) (fun j=>([(0,D3 Int 1 E4 a),(1,D3 Int 1 E4 b),(5,C3 W),(6,.s (.one (.mut 20))),(8,C3 i),(9,.s (.one (.msl 20 1 P W))),(10,.s (.one (.msl 20 1 (P+W) W))),(11,C3 ((j:Int) - 1))],[(20,.arr Int 1 C82 (flat a b (fun r q=>decide (i+1≤r∨(r=i∧j≤q)))))])) (fun j=>j≤b.length) (fun j=>j) b.length (Nat.le_refl _) (Sees.of ⟨le1 rfl,le1 rfl,le1 rfl,le1 rfl,le1 rfl,le1 rfl,le1 rfl,le1 rfl,trivial⟩ ⟨rfl,trivial⟩) ?_))
   intro j hj
   dsimp only at hj ⊢
   refine k2 (k2 (A2 (A3 J J (A5 (V4 J J) J (A4 ?_)))));refine k1 ?_;refine B1 rfl (fun ht=>?_) (fun ht=>?_)
   ·obtain ⟨j,rfl⟩:∃r,j=r+1:=⟨j - 1,by have:=A0 ht;omega⟩
    have hva:a[i]?=some a[i]:=by simp [show i < a.length by omega]
    have hvb:b[j]?=some b[j]:=by simp [show j < b.length by omega]
    have hdd:=J96 a b i j (by omega) (by omega)
    have hd1:=hdl i j
    have hd2:=hdl (i+1) j
    have hd3:=hdl i (j+1)
    have hd4:=hdl (i+1) (j+1)
    obtain ⟨u,hu⟩:∃u,u=a[i]:=⟨_,rfl⟩
    obtain ⟨v,hv⟩:∃v,v=b[j]:=⟨_,rfl⟩
    rw [←hu] at hva hdd
    rw [←hv] at hvb hdd
    have hst:(flat a b (fun r q=>decide (i+1≤r∨(r=i∧j+1≤q)))).set (P+j) (dist (a.drop i) (b.drop j):Int)=flat a b (fun r q=>decide (i+1≤r∨(r=i∧j≤q))):=hset _ _ _ _ (by omega) rfl (by simp) (fun r q hr hq hne=>by rw [decide_eq_decide];omega)
    refine A58 [(0,D3 Int 1 E4 a),(1,D3 Int 1 E4 b),(5,C3 W),(6,.s (.one (.mut 20))),(8,C3 i),(9,.s (.one (.msl 20 1 P W))),(10,.s (.one (.msl 20 1 (P+W) W))),(11,C3 j)] [(20,.arr Int 1 C82 (flat a b (fun r q=>decide (i+1≤r∨(r=i∧j+1≤q)))))] (Sees.of ⟨le1 rfl,le1 rfl,le1 rfl,le1 rfl,le1 rfl,le1 rfl,le1 rfl,leE J (by first | (simp;done) | (simp;omega)),trivial⟩ ⟨rfl,trivial⟩) ?_
    refine c_skip ?_
    refine R8 ?_
    refine E48 [(0,D3 Int 1 E4 a),(1,D3 Int 1 E4 b),(5,C3 W),(6,.s (.one (.mut 20))),(8,C3 i),(9,.s (.one (.msl 20 1 P W))),(10,.s (.one (.msl 20 1 (P+W) W))),(11,C3 j)] [(20,.arr Int 1 C82 (flat a b (fun r q=>decide (i+1≤r∨(r=i∧j≤q)))))] ?_ ?_
    ·refine k3 (k2 (E8 (by kernel_rfl) (by kernel_rfl) (E3 J J (E3 J J (B5 (B2 J (.pure _ _ _ _) J (by omega) hva) J J (B5 (B0 J J) J J (E3 J J (E3 J J (B5 (B2 J (.pure _ _ _ _) J (by omega) hvb) J J (B5 (B0 J J) J J (B5 (F7 J J) J J (P2 ?_))))))))))));refine k1 ?_;refine B1 rfl (fun ht=>?_) (fun ht=>?_)
     ·rw [if_pos (A0 ht)] at hdd
      rw [hdd] at hst
      have hg:=hbelow (j+1) (j+1) (by omega)
      have hgi:(flat a b (fun r q=>decide (i+1≤r∨(r=i∧j+1≤q))))[P+W+((j:Int)+1).toNat]?=some (dist (a.drop (i+1)) (b.drop (j+1)):Int):=by rw [show ((j:Int)+1).toNat=j+1 by omega];exact hg
      skip
      refine A2 (A3 J J (A3 J J (A3 J J (A3 J J (D6 J J J (A5 (T6 J J (by omega) (by omega)) J (A5 (N7 J J hgi J) J (A5 (T6 J J (by omega) (by omega)) J (H1 (K9 TySz.out J J (by (rw [hL];omega)) J J) ?_)))))))));refine A4 ?_;refine k4 (k1 ?_)
      rw [show P+((j:Nat):Int).toNat=P+j by omega,hst]
      exact Sees.of ⟨le1 rfl,le1 rfl,le1 rfl,le1 rfl,le1 rfl,le1 rfl,le1 rfl,le1 rfl,trivial⟩ ⟨rfl,trivial⟩
     ·rw [if_neg (A1 ht)] at hdd
      have hg1:=hbelow j (j+1) (by omega)
      have hg2:=hdone (j+1) (by omega)
      have hgi1:(flat a b (fun r q=>decide (i+1≤r∨(r=i∧j+1≤q))))[P+W+((j:Nat):Int).toNat]?=some (dist (a.drop (i+1)) (b.drop j):Int):=by rw [K84];exact hg1
      have hgi2:(flat a b (fun r q=>decide (i+1≤r∨(r=i∧j+1≤q))))[P+((j:Int)+1).toNat]?=some (dist (a.drop i) (b.drop (j+1)):Int):=by rw [show ((j:Int)+1).toNat=j+1 by omega];exact hg2
      have hval:IntKind.u16.wrap ((if (dist (a.drop i) (b.drop (j+1)):Int) < (dist (a.drop (i+1)) (b.drop j):Int) then (dist (a.drop i) (b.drop (j+1)):Int) else (dist (a.drop (i+1)) (b.drop j):Int))+1)=(dist (a.drop i) (b.drop j):Int):=by
       rw [I88 _ (by split<;>omega),hdd];split<;>omega
      skip
      refine E8 (by kernel_rfl) (by kernel_rfl) (E3 J J (E3 J J (E3 J J (E3 J J (B5 (T6 J J (by omega) (by omega)) J J (B5 (N7 J J hgi1 J) J J (E3 J J (E3 J J (B5 (X0 J J (by omega)) J J (B5 (T6 J J (by omega) (by omega)) J J (B5 (N7 J J hgi2 J) J J (B5 (F70 J J) J J (B5 (J01 J J) J J (B5 (T6 J J (by omega) (by omega)) J J (d_eff (K9 TySz.out J J (by (rw [hL];omega)) J J) J ?_)))))))))))))));refine P2 ?_;refine k4 (k1 ?_)
      rw [hval,show P+((j:Nat):Int).toNat=P+j by omega,hst]
      exact Sees.of ⟨le1 rfl,le1 rfl,le1 rfl,le1 rfl,le1 rfl,le1 rfl,le1 rfl,le1 rfl,trivial⟩ ⟨rfl,trivial⟩
    ·skip
     refine A2 (A3 J J (A5 (L7 J J (by omega)) J (A6 J J (A4 ?_))));refine k1 ?_
     exact ⟨j,by omega,by omega,Sees.of ⟨le1 rfl,le1 rfl,le1 rfl,le1 rfl,le1 rfl,le1 rfl,le1 rfl,le1 rfl,trivial⟩ ⟨rfl,trivial⟩⟩
   ·obtain rfl:j=0:=by have:=A1 ht;omega
    rw [show flat a b (fun r q=>decide (i+1≤r∨(r=i∧0≤q)))=flat a b (fun r _=>decide (i≤r)) from B58 fun r q _ _=>.inl (by rw [decide_eq_decide];omega)]
    refine k6 (k7 (k7 (k8 J (k4 (k1 (A2 (A3 J J (A5 (L7 J J (by omega)) J (A6 J J (A4 ?_))))))))));refine k1 ?_
    exact ⟨i,by omega,by omega,Sees.of ⟨le1 rfl,le1 rfl,le1 rfl,le1 rfl,le1 rfl,trivial⟩ ⟨rfl,trivial⟩⟩
  ·obtain rfl:i=0:=by have:=A1 ht;omega
   rw [show flat a b (fun r _=>decide (0≤r))=flat a b (fun _ _=>true) from B58 fun r q _ _=>.inl (by simp)]
   refine D8 (Sees.freeze (k:=20) J) ?_
   refine k6 (k2 (A2 (A3 J J (A6 J J (A4 ?_)))));refine k1 (k10 ?_)
   exact B6 (H3 rfl rfl rfl) rfl
theorem i64_id {n:Int} (h:-9223372036854775808≤n∧n≤9223372036854775807):IntKind.i64.wrap n=n:=IntWalk.i64_in _ h
theorem J20 {gf:Fr} {ob:Obs} (a b:List Int) (i j:Nat) (ha:a.length≤4096) (hb:b.length≤4096) (hi:i≤a.length) (hj:j≤b.length) (h8:B8 ob 8=some (.box [.p (.list Int 1 C82 (flat a b (fun _ _=>true)))])) (h3:B8 ob 3=some (.box [.p (.list Int 1 E4 b)])) :
  AL.Met Tryz.prog 110 [.one (.p (.v (.int .i64 i))),.one (.p (.v (.int .i64 j))),.one (.ref 8 0),.one (.ref 3 0)] gf ob [] (fun rs ob'=>rs=[.one (.p (.v (.int .i64 (dist (a.drop i) (b.drop j):Int))))]∧ob'=ob):=by
 have hg:=F19 (a:=a) (b:=b) (done:=fun _ _=>true) hi hj
 rw [if_pos rfl] at hg
 have hin:=(E37 (a:=a) (b:=b) hi hj).1
 have hL:=E08 a b (fun _ _=>true)
 have e1:(i:Int)*((b.length:Int)+1)=((i*(b.length+1):Nat):Int):=by push_cast;rfl
 have hbd:i*(b.length+1)≤4096*4097:=Nat.mul_le_mul (by omega) (by omega)
 have hbd2:(a.length+1)*(b.length+1)≤4097*4097:=Nat.mul_le_mul (by omega) (by omega)
 have hgi:(flat a b (fun _ _=>true))[((i:Int)*((b.length:Int)+1)+j).toNat]?=some (dist (a.drop i) (b.drop j):Int):=by
  rw [e1,show (((i*(b.length+1):Nat):Int)+j).toNat=i*(b.length+1)+j by omega];exact hg
 have hd:=G69 (a.drop i) (b.drop j)
 simp only [K99] at hd
 refine AL.Met.intro Tryz.func110 (by decide) J J J ?_
 refine k2 (A2 (A6 J J (A4 ?_)));refine k1 (k2 (A2 (A5 (C9 J h8 J) J (A3 J J (A5 (C9 J h3 J) J (E5 J J (D6 J J J (A5 (A34 J J (by (rw [e1];omega))) J ?_))))))));refine A3 J J (A5 (X0 J J (by (rw [e1];omega))) J ?_);refine A5 (B2 J (.pure _ _ _ _) J (by omega) hgi) J (A5 (B0 J J) J (A5 (V8 J) J (A6 J J (A4 ?_))))
 rw [i64_id (by omega)]
 refine k1 (k10 ?_)
 exact E1 (I1 rfl rfl) (by repeat (first | exact A8 | refine A9 rfl ?_ | refine C2 _ ?_)) (fun _ _ h=>h) ⟨rfl,rfl⟩
theorem K39 (a b:List Int) (ha:a.length≤4096) (hb:b.length≤4096):FnOk Tryz.prog 76 [K2 a,K2 b] (fun rs=>rs=[pSpans (L4 0 0 a b)]):=by
 obtain ⟨n,hn⟩:∃n,n=X3 a b:=⟨_,rfl⟩
 have hnl:=H80 a b
 rw [←hn] at hnl
 have hbeg:=F21 a b 0 0
 rw [←hn] at hbeg
 refine FnOk.intro Tryz.func76 (by decide) J J J J ?_
 refine k2 (A2 (D1 (i6 3 J J J) J (A6 J J (A4 ?_))));refine k1 (k2 (A2 (D1 (S9 5 _ spanC J) J (A4 ?_))));refine k1 (k2 (A2 (A3 J J (G7 J J J J (D7 (F53 a b (by omega)) J J J ?_)))));rintro _ rfl;refine A6 J J (A4 ?_)
 rw [←hn]
 refine k1 (k2 (k2 (A2 (A3 J J (A3 J J (A4 ?_))))));refine k1 (k3 (D2 (X:=Nat) (fun k=>([(0,D3 Int 1 E4 a),(3,.s (.one (.ref 3 0))),(5,.s (.one (.buf 5 Span 2 spanC (Q5 0 0 k)))),(6,C3 n),(15,C3 n),(16,C3 k)],[(3,.box [.p (.list Int 1 E4 b)]),(5,.spare (Q5 0 0 k).length 2 139)])) (fun k=>k≤n) (fun k=>n - k) 0 (Nat.zero_le _) (Sees.of ⟨le1 rfl,le1 rfl,le1 rfl,le1 rfl,le1 rfl,le1 rfl,trivial⟩ ⟨rfl,rfl,trivial⟩) ?_))
 intro k hk
 dsimp only at hk ⊢
 have hrl:=F10 0 0 k
 refine k2 (A2 (F3 J J J (A4 ?_)));refine k1 (k2 ?_);refine B1 rfl (fun ht=>?_) (fun ht=>?_)
 ·have hlt:k < n:=by have:=A0 ht;omega
  have hsn:=G70 0 0 k
  refine k5 (k1 (k2 (k3 (k2 (A2 (A3 J J (A6 J J (A4 ?_))))))));refine k1 (A2 (A3 J J (A3 J J (A3 J J (A5 (J4 J) J (A5 (C5 (c:=spanC) (ys:=[⟨(k:Int),(k:Int)⟩]) (E0 J J J J G5) J J J) J (D1 (J7 J J J (.pure _ _ _ _) (by (simp only [K87,K90];omega)) J) J (A6 J J (A4 ?_)))))))));refine k4 (k1 (A2 (D6 J J J (A3 J J (A4 ?_)))));refine k1 ?_;refine ⟨k+1,by omega,by omega,?_⟩
  rw [hsn,show (0:Int)+(k:Int)=k by omega]
  exact Sees.of ⟨le1 rfl,le1 rfl,le1 rfl,le1 rfl,le1 rfl,le1 rfl,trivial⟩ ⟨rfl,rfl,trivial⟩
 have hk':k=n:=by have:=A1 ht;omega
 subst hk'
 obtain ⟨a',ha'⟩:∃a',a'=a.drop k:=⟨_,rfl⟩
 obtain ⟨b',hb'⟩:∃b',b'=b.drop k:=⟨_,rfl⟩
 have hal:a'.length≤4096:=by rw [ha',K99];omega
 have hbl:b'.length≤4096:=by rw [hb',K99];omega
 rw [Int.zero_add,←ha',←hb'] at hbeg
 refine k6 (k2 (E8 (by kernel_rfl) (by kernel_rfl) (E3 J J (E3 J J (B5 (F67 J (.pure _ _ _ _) J (by omega) (by omega)) J J (B5 (C9 J J J) J J (E3 J J (B5 (F67 J (.pure _ _ _ _) J (by omega) (by omega)) J J (B5 (I2 J J) J J (d_eff (C1 TySz.out J J J J J J) J (P2 ?_)))))))))))
 rw [K84,←ha',←hb']
 refine k1 (k2 (A2 (A3 J J (G7 J J J J (D7 (F54 a' b' hal hbl) J J J ?_)))));rintro _ rfl;refine D1 (I4 8 J) J (H1 (C1 TySz.out J J J J J J) (A4 ?_));refine k1 (k2 (A2 (A5 (l4 J J) J (A6 J J (A4 ?_)))));refine k1 (k2 (k2 (A2 (A6 J J (A6 J J (A4 ?_))))));refine k1 (k3 (D2 (X:=Nat × Nat × List Span) (fun x=>([(0,D3 Int 1 E4 a'),(3,.s (.one (.ref 3 0))),(5,.s (.one (.buf 5 Span 2 spanC x.2.2))),(6,C3 k),(8,.s (.one (.ref 8 0))),(9,.s (.one (.clo 110 [] [(8,0),(3,0)]))),(10,C3 x.1),(11,C3 x.2.1)],[(3,.box [.p (.list Int 1 E4 b')]),(5,.spare x.2.2.length 2 139),(8,.box [.p (.list Int 1 C82 (flat a' b' (fun _ _=>true)))])])) (fun x=>x.1≤a'.length∧x.2.1≤b'.length∧x.2.2.length≤k+x.1∧L4 0 0 a b=x.2.2++L4 (k+x.1) (k+x.2.1) (a'.drop x.1) (b'.drop x.2.1)) (fun x=>(a'.length - x.1)+(b'.length - x.2.1)) (0,0,Q5 0 0 k) ⟨Nat.zero_le _,Nat.zero_le _,by rw [hrl];exact Nat.le_refl _,by simpa using hbeg⟩ (Sees.of ⟨le1 rfl,le1 rfl,le1 rfl,le1 rfl,le1 rfl,le1 rfl,le1 rfl,le1 rfl,trivial⟩ ⟨rfl,rfl,rfl,trivial⟩) ?_))
 rintro ⟨i,j,out⟩ ⟨hi,hj,hol,he⟩
 dsimp only at hi hj hol he ⊢
 refine k2 (k2 (A2 (A3 J J (A3 J J (E5 J J (F3 J J J (A3 J J (B3 J J J J (fun hg=>by rw [hg];exact B9 J J) ?_))))))));refine B3 J J J J (fun hg=>by rw [hg];exact C9 J J J) ?_;refine B3 J J J J (fun hg=>by rw [hg];exact Z2 J (.pure _ _ _ _)) ?_;refine B3 J J J J (fun hg=>by rw [hg];exact B08 J J) ?_;refine K4 J J ?_;refine A4 ?_;refine k1 ?_;refine B1 rfl (fun ht=>?_) (fun ht=>?_)
 ·simp only [or_pick] at ht
  have hcond:=A0 ht
  refine A58 [(0,D3 Int 1 E4 a'),(3,.s (.one (.ref 3 0))),(5,.s (.one (.buf 5 Span 2 spanC out))),(6,C3 k),(8,.s (.one (.ref 8 0))),(9,.s (.one (.clo 110 [] [(8,0),(3,0)]))),(10,C3 i),(11,C3 j)] [(3,.box [.p (.list Int 1 E4 b')]),(5,.spare out.length 2 139),(8,.box [.p (.list Int 1 C82 (flat a' b' (fun _ _=>true)))])] (Sees.of ⟨le1 rfl,le1 rfl,le1 rfl,le1 rfl,le1 rfl,le1 rfl,le1 rfl,le1 rfl,trivial⟩ ⟨rfl,rfl,rfl,trivial⟩) ?_
  refine k5 (k1 (k3 (k3 (k2 (E8 (by kernel_rfl) (by kernel_rfl) (E3 J J (E3 J J (B5 (Z2 J (.pure _ _ _ _)) J J (B5 (B08 J J) J J (E3 J J (F5 J J (fun hg=>by rw [hg];exact B9 J J) J J ?_)))))))))));refine F5 J J (fun hg=>by rw [hg];exact C9 J J J) J J ?_;refine F5 J J (fun hg=>by rw [hg];exact Z2 J (.pure _ _ _ _)) J J ?_;refine F5 J J (fun hg=>by rw [hg];exact B08 J J) J J ?_;refine B5 (N6 J (fun h=>by first | rfl | (rw [h];rfl)) (fun h=>by first | rfl | (rw [h];rfl))) J J ?_;refine E3 J J (F5 J J (fun hg=>by rw [hg];exact B9 J J) J J ?_);refine F5 J J (fun hg=>by rw [hg];exact B9 J J) J J ?_;refine F5 J J (fun hg=>by have hq:=hg;(try simp at hq);rw [hg];exact B2 J (.pure _ _ _ _) J (by omega) (D08 (by omega))) J J ?_;refine F5 J J (fun hg=>by rw [hg];exact B0 J J) J J ?_;refine F5 J J (fun hg=>by rw [hg];exact C9 J J J) J J ?_;refine F5 J J (fun hg=>by rw [hg];exact B9 J J) J J ?_;refine F5 J J (fun hg=>by have hq:=hg;(try simp at hq);rw [hg];exact B2 J (.pure _ _ _ _) J (by omega) (D08 (by omega))) J J ?_;refine F5 J J (fun hg=>by rw [hg];exact B0 J J) J J ?_;refine F5 J J (fun hg=>by rw [hg];exact F7 J J) J J ?_;refine B5 (N6 J (fun h=>by first | rfl | (rw [h];rfl)) (fun h=>by first | rfl | (rw [h];rfl))) J J ?_;refine B5 (I2 J J) J J (P2 ?_);refine k1 ?_;refine B1 rfl (fun ht=>?_) (fun ht=>?_)
  ·simp only [and_pick] at ht
   obtain ⟨⟨h1,h2⟩,h3⟩:=A0 ht
   have h1:i < a'.length:=by omega
   have h2:j < b'.length:=by omega
   rw [E02 a' b' i j h1 h2,if_pos (by simpa [h1,h2] using h3)] at he
   refine A58 [(0,D3 Int 1 E4 a'),(3,.s (.one (.ref 3 0))),(5,.s (.one (.buf 5 Span 2 spanC out))),(6,C3 k),(8,.s (.one (.ref 8 0))),(9,.s (.one (.clo 110 [] [(8,0),(3,0)]))),(10,C3 i),(11,C3 j)] [(3,.box [.p (.list Int 1 E4 b')]),(5,.spare out.length 2 139),(8,.box [.p (.list Int 1 C82 (flat a' b' (fun _ _=>true)))])] (Sees.of ⟨le1 rfl,le1 rfl,le1 rfl,le1 rfl,le1 rfl,le1 rfl,le1 rfl,le1 rfl,trivial⟩ ⟨rfl,rfl,rfl,trivial⟩) ?_
   refine k2 (A2 (A3 J J (A3 J J (A3 J J (D6 J J J (A3 J J (A3 J J (D6 J J J (A5 (J4 J) J (A5 (C5 (c:=spanC) (ys:=[⟨(k:Int)+i,(k:Int)+j⟩]) (E0 J J J J G5) J J J) J (D1 (J7 J J J (.pure _ _ _ _) (by (simp only [K87,K90];omega)) J) J (A6 J J (A4 ?_)))))))))))));refine k1 (A2 (A3 J J (D6 J J J (A3 J J (D6 J J J (A6 J J (A6 J J (A4 ?_))))))));refine k4 (k4 (k1 ?_));refine ⟨(i+1,j+1,out++[⟨(k:Int)+i,(k:Int)+j⟩]),⟨by dsimp only;omega,by dsimp only;omega,by simp;omega,?_⟩,by dsimp only;omega,Sees.of ⟨le1 rfl,le1 rfl,le1 rfl,le1 rfl,le1 rfl,le1 rfl,le1 rfl,le1 rfl,trivial⟩ ⟨rfl,rfl,rfl,trivial⟩⟩
   dsimp only
   rw [he,K96]
   congr 2
  ·simp only [and_pick] at ht
   have hno:=A1 ht
   refine A58 [(0,D3 Int 1 E4 a'),(3,.s (.one (.ref 3 0))),(5,.s (.one (.buf 5 Span 2 spanC out))),(6,C3 k),(8,.s (.one (.ref 8 0))),(9,.s (.one (.clo 110 [] [(8,0),(3,0)]))),(10,C3 i),(11,C3 j)] [(3,.box [.p (.list Int 1 E4 b')]),(5,.spare out.length 2 139),(8,.box [.p (.list Int 1 C82 (flat a' b' (fun _ _=>true)))])] (Sees.of ⟨le1 rfl,le1 rfl,le1 rfl,le1 rfl,le1 rfl,le1 rfl,le1 rfl,le1 rfl,trivial⟩ ⟨rfl,rfl,rfl,trivial⟩) ?_
   by_cases h1:i < a'.length
   ·have hr:decide ((i:Int) < (a'.length:Int))=true:=decide_eq_true (by omega)
    have hd1:=G69 (a'.drop (i+1)) (b'.drop j)
    simp only [K99] at hd1
    have hstep:¬j < b'.length→dist (a'.drop (i+1)) (b'.drop j)+1=dist (a'.drop i) (b'.drop j)∧L4 (k+i) (k+j) (a'.drop i) (b'.drop j)=L4 (k+i+1) (k+j) (a'.drop (i+1)) (b'.drop j):=by
     intro hj2
     rw [show b'.drop j=[] from L00 (by omega),D16,D16,K99,K99,w9,w9]
     exact ⟨by omega,rfl⟩
    have hgo:j < b'.length→L4 (k+i) (k+j) (a'.drop i) (b'.drop j)=if dist (a'.drop (i+1)) (b'.drop j)+1=dist (a'.drop i) (b'.drop j) then L4 (k+i+1) (k+j) (a'.drop (i+1)) (b'.drop j) else L4 (k+i) (k+j+1) (a'.drop i) (b'.drop (j+1)):=by
     intro h2
     rw [E02 a' b' i j h1 h2,if_neg]
     intro h3
     exact hno ⟨⟨by omega,by omega⟩,by simpa [h1,h2] using h3⟩
    refine k2 (A2 (A3 J J (A3 J J (E5 J J (F3 J J J (A3 J J (H4 J J J hr (A3 J J (H4 J J J hr (A3 J J (H4 J J J hr (D6 J J J (H4 J J J hr (A3 J J (H4 J J J hr (A85 (J20 a' b' (i+1) j hal hbl (by omega) hj J J) J J J J ?_))))))))))))))));rintro _ _ ⟨rfl,rfl⟩;refine H4 J J J hr (D6 J J J (H4 J J J hr (A3 J J (H4 J J J hr (A3 J J (H4 J J J hr (A3 J J (H4 J J J hr (A85 (J20 a' b' i j hal hbl hi hj J J) J J J J ?_)))))))));rintro _ _ ⟨rfl,rfl⟩;refine H4 J J J hr (A5 (F7 J J) J (K4 J J ?_));refine A6 J J (A4 ?_);refine k1 ?_;refine B1 rfl (fun ht=>?_) (fun ht=>?_)
    ·simp only [and_pick] at ht
     obtain ⟨_,h3⟩:=A0 ht
     have h3:dist (a'.drop (i+1)) (b'.drop j)+1=dist (a'.drop i) (b'.drop j):=by omega
     have hnext:L4 (k+i) (k+j) (a'.drop i) (b'.drop j)=L4 (k+i+1) (k+j) (a'.drop (i+1)) (b'.drop j):=by
      by_cases h2:j < b'.length
      ·rw [hgo h2,if_pos h3]
      ·exact (hstep h2).2
     rw [hnext] at he
     skip
     refine A2 (A3 J J (D6 J J J (A6 J J (A4 ?_))));refine k4 (k4 (k1 ?_));refine ⟨(i+1,j,out),⟨by dsimp only;omega,by dsimp only;omega,by dsimp only;omega,?_⟩,by dsimp only;omega,Sees.of ⟨le1 rfl,le1 rfl,le1 rfl,le1 rfl,le1 rfl,le1 rfl,le1 rfl,le1 rfl,trivial⟩ ⟨rfl,rfl,rfl,trivial⟩⟩
     dsimp only
     rw [he,show (k:Int)+(i:Int)+1=(k:Int)+((i+1:Nat):Int) by omega]
    ·simp only [and_pick] at ht
     have h3:=A1 ht
     have h3:¬dist (a'.drop (i+1)) (b'.drop j)+1=dist (a'.drop i) (b'.drop j):=fun q=>h3 ⟨by omega,by omega⟩
     have h2:j < b'.length:=by
      by_cases h2:j < b'.length
      ·exact h2
      ·exact absurd (hstep h2).1 h3
     rw [hgo h2,if_neg h3] at he
     skip
     refine A2 (A3 J J (D6 J J J (A6 J J (A4 ?_))));refine k4 (k4 (k1 ?_));refine ⟨(i,j+1,out),⟨by dsimp only;omega,by dsimp only;omega,by dsimp only;omega,?_⟩,by dsimp only;omega,Sees.of ⟨le1 rfl,le1 rfl,le1 rfl,le1 rfl,le1 rfl,le1 rfl,le1 rfl,le1 rfl,trivial⟩ ⟨rfl,rfl,rfl,trivial⟩⟩
     dsimp only
     rw [he,show (k:Int)+(j:Int)+1=(k:Int)+((j+1:Nat):Int) by omega]
   ·have hrf:decide ((i:Int) < (a'.length:Int))=false:=decide_eq_false (by omega)
    have h2:j < b'.length:=by omega
    refine k2 (A2 (A3 J J (A3 J J (E5 J J (F3 J J J (A3 J J (I8 J J J (by rw [hrf];decide) J ?_)))))));refine I8 J J J (by rw [hrf];decide) J ?_;refine I8 J J J (by rw [hrf];decide) J ?_;refine I8 J J J (by rw [hrf];decide) J ?_;refine I8 J J J (by rw [hrf];decide) J ?_;refine I8 J J J (by rw [hrf];decide) J ?_;refine I8 J J J (by rw [hrf];decide) J ?_;refine I8 J J J (by rw [hrf];decide) J ?_;refine I8 J J J (by rw [hrf];decide) J ?_;refine I8 J J J (by rw [hrf];decide) J ?_;refine I8 J J J (by rw [hrf];decide) J ?_;refine A5 (S6 J (hrf) J) J (A6 J J (A4 ?_));refine k1 ?_;refine B1 rfl (fun ht=>?_) (fun ht=>?_)
    ·cases ht
    ·skip
     refine A2 (A3 J J (D6 J J J (A6 J J (A4 ?_))));refine k4 (k4 (k1 ?_));refine ⟨(i,j+1,out),⟨by dsimp only;omega,by dsimp only;omega,by dsimp only;omega,?_⟩,by dsimp only;omega,Sees.of ⟨le1 rfl,le1 rfl,le1 rfl,le1 rfl,le1 rfl,le1 rfl,le1 rfl,le1 rfl,trivial⟩ ⟨rfl,rfl,rfl,trivial⟩⟩
     dsimp only
     rw [he,show a'.drop i=[] from L00 (by omega),Y4,Y4]
 ·simp only [or_pick] at ht
  have hcond:=A1 ht
  rw [show a'.drop i=[] from L00 (by omega),Y4,L10] at he
  refine k6 (k2 (A2 (A3 J J (A6 J J (A4 ?_)))));refine k1 (k10 ?_)
  exact B6 (H3 rfl rfl rfl) (by rw [he])
theorem I54 (a b:List Int) (ha:a.length≤4096) (hb:b.length≤4096):FnOk Tryz.prog 44 [K2 a,K2 b] (fun rs=>rs=[pChanges (B51 a b),F2 0]):=by
 have hA:=C80 a b 0 0
 rw [Int.zero_add,Int.zero_add] at hA
 have hl:=C58 0 0 a b
 refine FnOk.intro Tryz.func44 (by decide) J J J J ?_
 refine k2 (A2 (A6 J J (A6 J J (A4 ?_))));refine k1 (k2 (k2 (A2 (A3 J J (A3 J J (D7 (H49 a b) J J J ?_))))));rintro _ rfl;refine A5 (Q8 J) J (A4 ?_);refine k1 ?_;refine B1 rfl (fun ht=>?_) (fun ht=>?_)
 ·exfalso
  have h:decide ((a.length:Int)≤4096∧(b.length:Int)≤4096)=true:=decide_eq_true ⟨by omega,by omega⟩
  rw [h] at ht;cases ht
 refine k5 (k1 (k2 (A2 (A3 J J (A3 J J (D7 (K39 a b ha hb) J J J ?_))))));rintro _ rfl;refine A3 J J (E5 J J (A3 J J (E5 J J (D7 (F52 (L4 0 0 a b) a.length b.length ⟨by omega,by omega⟩ ⟨by omega,by omega⟩ hA (by omega)) J J J ?_))));rintro _ rfl;refine H0 J J J (H0 J J J (A6 J J (A6 J J (A4 ?_))));refine k1 (k10 ?_)
 exact B6 (Z6 rfl rfl rfl rfl rfl) rfl
end Go.Proofs.YtkahafmcmiiolaaGreatDoor
namespace Go.Proofs.YtkahafmcmiiolaaGreatDoor
open Go Go.AL
set_option maxRecDepth 100000
set_option maxHeartbeats 1000000
theorem tid_old {gf:Fr} {ob:Obs} (names:List Str) (s:Str) (hs:s∈names) (h0:B8 ob 710=some (.box [.mut 711,.buf 712 Str 1 R5 names])) (h1:B8 ob 711=some (.map Str o8 (A30 names 0))) :
  AL.Met Tryz.prog 105 [.one (.ref 710 0),.one (.p (.v (.string ⟨s.toArray⟩)))] gf ob [] (fun rs ob'=>rs=[.one (.p (.v (.int .i64 (N8 names s 0))))]∧ob'=ob):=by
 have hg:=G09 s names 0 hs
 refine AL.Met.intro Tryz.func105 (by decide) J J J ?_
 refine k2 (A2 (A6 J J (A4 ?_)));refine k1 (k2 (A2 (A3 J J (A5 (B4 J) J (A5 (A7 J) J (A5 (C9 J h0 J) J (A3 J J (A5 (B83 (s) (r:=some (.v (.int .i64 (N8 names s 0)))) J h1 J z8 A00 (hg)) J (A3 J J (H0 J J J (H0 J J J (A6 J J (A6 J J (A4 ?_))))))))))))));refine k1 (k2 (k2 (A2 (A3 J J (A5 (Q8 J) J (A4 ?_))))));refine k1 ?_;refine B1 rfl (fun ht=>?_) (fun ht=>?_)
 ·cases ht
 refine k5 (k1 (k2 (A2 (A3 J J (A6 J J (A4 ?_))))));refine k1 (k10 ?_)
 exact E1 (I1 rfl rfl) (by repeat (first | exact A8 | refine A9 rfl ?_ | refine C2 _ ?_)) (fun _ _ h=>h) ⟨rfl,rfl⟩
theorem tid_new {gf:Fr} {ob:Obs} (names:List Str) (s:Str) (hs:s∉names) (hl:names.length≤1073741823) (h0:B8 ob 710=some (.box [.mut 711,.buf 712 Str 1 R5 names])) (h1:B8 ob 711=some (.map Str o8 (A30 names 0)))
  (h2:B8 ob 712=some (.spare names.length 1 9)) :
  AL.Met Tryz.prog 105 [.one (.ref 710 0),.one (.p (.v (.string ⟨s.toArray⟩)))] gf ob [712] (fun rs ob'=>rs=[.one (.p (.v (.int .i64 names.length)))]∧ob'=(710,.box [.mut 711,.buf 712 Str 1 R5 (names++[s])])::(712,.spare (names++[s]).length 1 9)::Obs.forget 712 ((711,.map Str o8 (A30 names 0++[(s,.v (.int .i64 names.length))]))::ob)):=by
 have hg:=F22 s names 0 hs
 refine AL.Met.intro Tryz.func105 (by decide) J J J ?_
 refine k2 (A2 (A6 J J (A4 ?_)));refine k1 (k2 (A2 (A3 J J (A5 (B4 J) J (A5 (A7 J) J (A5 (C9 J h0 J) J (A3 J J (A5 (B83 (s) (r:=none) J h1 J z8 A00 (hg)) J (A3 J J (H0 J J J (H0 J J J (A6 J J (A6 J J (A4 ?_))))))))))))));refine k1 (k2 (k2 (A2 (A3 J J (A5 (Q8 J) J (A4 ?_))))));refine k1 ?_;refine B1 rfl (fun ht=>?_) (fun ht=>?_)
 ·refine k2 (A2 (A3 J J (A5 (B4 J) J (A5 (A7 J) J (A5 (C9 J h0 J) J (A5 (Z2 J (.buf _ _ _ _ _)) J (A6 J J (A4 ?_))))))));refine k1 (k2 (A2 (A3 J J (A5 (B4 J) J (A5 (A7 J) J (A5 (C9 J h0 J) J (A3 J J (A3 J J (H1 (H00 (s) J h1 J J J z8 A00 (hg)) (A4 ?_))))))))));refine k1 ?_
  have h0':B8 ((711,Ob.map Str o8 (A30 names 0++[(s,.v (.int .i64 names.length))]))::ob) 710=some (.box [.mut 711,.buf 712 Str 1 R5 names]):=by rw [C7 (by decide)];exact h0
  have h2':B8 ((711,Ob.map Str o8 (A30 names 0++[(s,.v (.int .i64 names.length))]))::ob) 712=some (.spare names.length 1 9):=by rw [C7 (by decide)];exact h2
  have h0'':B8 ((712,Ob.spare (names++[s]).length 1 9)::Obs.forget 712 ((711,Ob.map Str o8 (A30 names 0++[(s,.v (.int .i64 names.length))]))::ob)) 710=some (.box [.mut 711,.p (.list Str 1 R5 names)]):=by
   rw [C7 (by decide),J1,h0'];rfl
  refine A2 (A3 J J (A3 J J (A5 (B4 J) J (A5 (A7 J) J (A5 (C9 J h0' J) J (A3 J J (A5 (C5 (c:=R5) (ys:=[s]) (E0 J J J J G5) J J J) J (D1 (J7 J h2' J (.pure _ _ _ _) (by (simp only [K87,K90];omega)) J) J (A5 (B4 J) J (A5 (A7 J) J (H1 (C1 TySz.out J h0'' J J J J) (A4 ?_))))))))))));refine k1 (k2 (A2 (A3 J J (A6 J J (A4 ?_)))));refine k1 (k10 ?_)
  exact E1 (I1 rfl rfl) (by repeat (first | exact A8 | refine A9 rfl ?_ | refine C2 _ ?_)) (fun _ _ h=>h) ⟨rfl,rfl⟩
 ·cases ht
theorem I55 (files:List (List Str)) (i m:Nat):(P7 files i).all (TC.free m)=true:=by
 rw [List.all_eq_true]
 intro t ht
 unfold P7 at ht
 obtain ⟨r,_,rfl⟩:=List.mem_map.1 ht
 split<;>rfl
theorem J77 {files:List (List Str)} {i:Nat} (b x:TC) (m:Nat):(((P7 files i).set i b).map (TC.forget m)).set i x=(P7 files i).set i x:=by
 have e1:(P7 files i).map (TC.forget m)=P7 files i:=by
  unfold P7
  rw [L19]
  apply List.map_congr_left
  intro r _
  simp only [Function.comp]
  split<;>rfl
 rw [List.map_set,e1,List.set_set]
theorem I56 {files:List (List Str)} {i:Nat} (b x:TC) (m m':Nat):((((P7 files i).set i b).map (TC.forget m)).map (TC.forget m')).set i x=(P7 files i).set i x:=by
 have e1:∀m,(P7 files i).map (TC.forget m)=P7 files i:=by
  intro m
  unfold P7
  rw [L19]
  apply List.map_congr_left
  intro r _
  simp only [Function.comp]
  split<;>rfl
 rw [List.map_set,e1,List.map_set,e1,List.set_set]
theorem J78 (files:List (List Str)) (hn:files.length≤1048576) (hl:files.flatten.length≤536870911):FnOk Tryz.prog 73 [pStrss files] (fun rs=>rs=[pIntss (files.map (N0 (H5 files))),D74 (H5 files)]):=by
 refine FnOk.intro Tryz.func73 (by decide) J J J J ?_
 refine k2 (A2 (A6 J J (A6 J J (A4 ?_))));refine k1 (k2 (A2 (D1 (D46 711 Str o8 J) J (A5 (J4 J) J (D1 (i6 710 J J J) J (A6 J J (A4 ?_)))))));refine k1 (k2 (D8 (K69 712 Str 1 R5 9 (kb:=710) (o:=1) J J J) ?_))
 refine A2 (A3 J J (E5 J J (D1 (o5 20 Unit (fun _ _=>.v (.slice none 0 0)) () J J (by omega) (by omega) (fun _=>by first | exact ⟨⟨rfl,rfl⟩,trivial⟩ | exact ⟨H8 _ _ _,trivial⟩ | exact ⟨H8 _ _ _,⟨rfl,rfl⟩,H8 _ _ _,trivial⟩) (by first | rfl | (simp [K0,K3,Ob.free,SV.free,S1.free,TC.free]<;>rfl))) J ?_)));refine A6 J J (A4 ?_);refine k1 (k2 (k2 (D8 (K80 20 J) ?_)))
 have hz:((List.replicate ((files.length:Nat):Int).toNat ()).map fun x=>TC.p ((fun (_:Unit) (_:Nat)=>Cell.v (.slice none 0 0)) x 0))=P7 files 0:=by
  rw [K84,←I89];simp
 have hz2:(List.replicate ((files.length:Nat):Int).toNat ()).length=files.length:=by simp
 rw [hz,hz2]
 refine A2 (A3 J J (E5 J J (A3 J J (A4 ?_))));refine k1 (k3 ?_);refine D2 (X:=Nat) (fun i=>([(4,.s (.one (.ref 710 0))),(5,.s (.one (.mut 20))),(16,D3 (List Str) 1 strsC files),(17,C3 files.length),(18,C3 i)],[(710,.box [.mut 711,.buf 712 Str 1 R5 (P1 files i 0)]),(711,.map Str o8 (A30 (P1 files i 0) 0)),(712,.spare (P1 files i 0).length 1 9),(20,.tarr files.length 1 (P7 files i))])) (fun i=>i≤files.length) (fun i=>files.length - i) 0 (Nat.zero_le _) ?_ ?_
 ·rw [show P1 files 0 0=[] from rfl]
  exact Sees.of ⟨le1 rfl,le1 rfl,le1 rfl,le1 rfl,le1 rfl,trivial⟩ ⟨rfl,rfl,rfl,rfl,trivial⟩
 intro i hi
 dsimp only at hi ⊢
 refine k2 (A2 (F3 J J J (A4 ?_)));refine k1 (k2 ?_);refine B1 rfl (fun ht=>?_) (fun ht=>?_)
 ·have hlt:i < files.length:=by have:=A0 ht;omega
  obtain ⟨f,hf⟩:∃f,f=files.getD i []:=⟨_,rfl⟩
  have hv:files[i]?=some f:=by rw [hf];simp [hlt]
  have hfl:f.length≤files.flatten.length:=by
   have h1:f∈files:=K93 hv
   have:∀(fs:List (List Str)),f∈fs→f.length≤fs.flatten.length:=by
    intro fs
    induction fs with
    | nil=>intro h;simp at h
    | cons x r ih =>
     intro h
     simp only [L16,K86]
     rcases List.mem_cons.1 h with rfl | h
     ·omega
     ·have:=ih h;omega
   exact this files h1
  have hrl:(P7 files i).length=files.length:=by simp [P7]
  refine k5 (k1 (k2 (k3 (k2 (A2 (A3 J J (A5 (B2 J (.pure _ _ _ _) J (by omega) hv) J (A5 (B0 J J) J (A6 J J (A6 J J (A4 ?_)))))))))));refine k1 (k2 (A2 (A3 J J (E5 J J (A3 J J (A4 ?_))))));refine k1 (k3 (D8 (K78 713 Int 1 E4 3 (kb:=20) (o:=i) J (K01 hlt) (by simp [K0,K3,Ob.free,SV.free,S1.free,TC.free,I55];repeat' (first | rfl | constructor))) ?_))
  refine D2 (X:=Nat) (fun j=>([(4,.s (.one (.ref 710 0))),(5,.s (.one (.mut 20))),(6,C3 i),(16,D3 (List Str) 1 strsC files),(17,C3 files.length),(18,C3 i),(23,D3 Str 1 R5 f),(24,C3 f.length),(25,C3 j)],[(20,.tarr files.length 1 ((P7 files i).set i (.buf 713 Int 1 E4 (N0 (H5 files) (f.take j))))),(710,.box [.mut 711,.buf 712 Str 1 R5 (P1 files i j)]),(711,.map Str o8 (A30 (P1 files i j) 0)),(712,.spare (P1 files i j).length 1 9),(713,.spare (N0 (H5 files) (f.take j)).length 1 3)])) (fun j=>j≤f.length) (fun j=>f.length - j) 0 (Nat.zero_le _) ?_ ?_
  ·exact Sees.of ⟨le1 rfl,le1 rfl,le1 rfl,le1 rfl,le1 rfl,le1 rfl,le1 rfl,le1 rfl,le1 rfl,trivial⟩ ⟨rfl,rfl,rfl,rfl,rfl,trivial⟩
  intro j hj
  dsimp only at hj ⊢
  refine k2 (A2 (F3 J J J (A4 ?_)));refine k1 (k2 ?_);refine B1 rfl (fun ht=>?_) (fun ht=>?_)
  ·have hlt2:j < f.length:=by have:=A0 ht;omega
   obtain ⟨s,hs⟩:∃s,s=f[j]:=⟨_,rfl⟩
   have hvs:f[j]?=some s:=by rw [hs];simp [hlt2]
   have hstep:=G77 files i j s (by rw [←hf];exact hvs)
   obtain ⟨names,hnm⟩:∃names,names=P1 files i j:=⟨_,rfl⟩
   have hnl:=F23 files i j
   obtain ⟨rest,hrest⟩:=E10 files i (j+1)
   obtain ⟨ids,hids⟩:∃ids,ids=N0 (H5 files) (f.take j):=⟨_,rfl⟩
   have hil:ids.length=j:=by rw [hids];simp [N0];omega
   have hnext:N0 (H5 files) (f.take (j+1))=ids++[N8 (H5 files) s 0]:=by
    rw [hids,L24 hlt2,←hs];unfold N0;rw [L08];rfl
   rw [hstep] at hrest
   rw [←hnm] at hstep hnl hrest ⊢
   rw [←hids]
   have hTi:((P7 files i).set i (.buf 713 Int 1 E4 ids))[((i:Nat):Int).toNat]?=some (.buf 713 Int 1 E4 ids):=by
    rw [K84,List.getElem?_set_self (by rw [hrl];omega)]
   have hTi2:(((P7 files i).set i (.buf 713 Int 1 E4 ids)).map (TC.forget 712))[((i:Nat):Int).toNat]?=some (.buf 713 Int 1 E4 ids):=by
    rw [L18,hTi];rfl
   refine k5 (k1 (k2 (k3 (k2 (A2 (A5 (B2 J (.pure _ _ _ _) J (by omega) hvs) J (A5 (B0 J J) J (A6 J J (A4 ?_)))))))))
   by_cases hmem:s∈names
   ·have hns:O0 names s=names:=by unfold O0;rw [if_pos hmem]
    rw [hns] at hstep hrest
    have hpl:N8 (H5 files) s 0=N8 names s 0:=by rw [hrest];exact C10 s rest names 0 hmem
    refine R8 ?_
    refine A58 ((9,Y9 s)::[(4,.s (.one (.ref 710 0))),(5,.s (.one (.mut 20))),(6,C3 i),(16,D3 (List Str) 1 strsC files),(17,C3 files.length),(18,C3 i),(23,D3 Str 1 R5 f),(24,C3 f.length),(25,C3 j)]) [(20,.tarr files.length 1 ((P7 files i).set i (.buf 713 Int 1 E4 ids))),(710,.box [.mut 711,.buf 712 Str 1 R5 names]),(711,.map Str o8 (A30 names 0)),(712,.spare names.length 1 9),(713,.spare ids.length 1 3)] (Sees.of ⟨le1 rfl,le1 rfl,le1 rfl,le1 rfl,le1 rfl,le1 rfl,le1 rfl,le1 rfl,le1 rfl,le1 rfl,trivial⟩ ⟨rfl,rfl,rfl,rfl,rfl,trivial⟩) ?_
    refine P3 [12,10,8] [[],[8],[10,8],[12,10,8]] [(8,([],[])),(10,([713],[34])),(12,([],[]))] [(0,[]),(1,[]),(2,[]),(3,[]),(4,[]),(5,[]),(6,[]),(7,[]),(8,[]),(9,[8]),(10,[8]),(11,[10,8]),(12,[10,8])] [(0,[8]),(0,[10,8]),(1,[8]),(1,[10,8]),(2,[8]),(3,[8]),(4,[8]),(5,[8])] (by kernel_rfl) (by kernel_rfl) (E9 J J (by kernel_rfl) J J (B9 J J) (E9 J J (by kernel_rfl) J J (B9 J J) (E9 J J (by kernel_rfl) J J (B9 J J) (E9 J J (by kernel_rfl) J J (B9 J J) (E9 J J (by kernel_rfl) J J (S0 J J J (by omega) (by omega)) (E9 J J (by kernel_rfl) J J (x7 J J (by first | exact hTi | exact hTi2)) ?_))))));refine E9 J J (by kernel_rfl) J J (B9 J J) (E9 J J (by kernel_rfl) J J (B9 J J) (Y2 J J (by kernel_rfl) J J (r_met (fun gf=>tid_old names s hmem J J) J J) J (E9 J J (by kernel_rfl) J J (C5 (c:=E4) (ys:=[N8 names s 0]) (E0 J J J J G5) J J J) (Y2 J J (by kernel_rfl) J J (D48 (fun frc hU=>J7 (S2 hU J) J (S2 hU J) (.pure _ _ _ _) (by (simp only [K87,K90];omega)) J)) J (E9 J J (by kernel_rfl) J J (S0 J J J (by omega) (by omega)) (Y2 J J (by kernel_rfl) J J (A61 (fun frc hU=>B80 TySz.out (S2 hU J) J (by (simp;omega)) (S2 hU J) J)) J ?_))))));refine F73 (by kernel_rfl) rfl ?_ ?_
    ·refine O1 J J (by kernel_rfl) J J (B9 J J) (O1 J J (by kernel_rfl) J J (B9 J J) (O1 J J (by kernel_rfl) J J (B9 J J) (O1 J J (by kernel_rfl) J J (B9 J J) (O1 J J (by kernel_rfl) J J (B9 J J) (O1 J J (by kernel_rfl) J J (B9 J J) (O1 J J (by kernel_rfl) J J (S0 J J J (by omega) (by omega)) (O1 J J (by kernel_rfl) J J (x7 J J (by first | exact hTi | exact hTi2)) ?_)))))));exact B84
    refine A58 [(4,.s (.one (.ref 710 0))),(5,.s (.one (.mut 20))),(6,C3 i),(16,D3 (List Str) 1 strsC files),(17,C3 files.length),(18,C3 i),(23,D3 Str 1 R5 f),(24,C3 f.length),(25,C3 j)] [(20,.tarr files.length 1 ((P7 files i).set i (.buf 713 Int 1 E4 (ids++[N8 names s 0])))),(710,.box [.mut 711,.buf 712 Str 1 R5 (names)]),(711,.map Str o8 (A30 (names) 0)),(712,.spare (names).length 1 9),(713,.spare (ids++[N8 names s 0]).length 1 3)] (by rw [K84 i,J77];exact Sees.of ⟨le1 rfl,le1 rfl,le1 rfl,le1 rfl,le1 rfl,le1 rfl,le1 rfl,le1 rfl,le1 rfl,trivial⟩ ⟨rfl,rfl,rfl,rfl,rfl,trivial⟩) ?_
    refine A2 (D6 J J J (A3 J J (A4 ?_)));refine k1 ?_
    exact ⟨j+1,hlt2,by omega,by rw [hstep,hnext,hpl];exact Sees.of ⟨le1 rfl,le1 rfl,le1 rfl,le1 rfl,le1 rfl,le1 rfl,le1 rfl,le1 rfl,le1 rfl,trivial⟩ ⟨rfl,rfl,rfl,rfl,rfl,trivial⟩⟩
   ·refine R8 ?_
    have hns:O0 names s=names++[s]:=by unfold O0;rw [if_neg hmem]
    rw [hns] at hstep hrest
    have hkv:A30 (names++[s]) 0=A30 names 0++[(s,.v (.int .i64 (names.length:Int)))]:=by rw [G08];simp only [Int.zero_add]
    have hpl:N8 (H5 files) s 0=names.length:=by
     rw [hrest,C10 s rest (names++[s]) 0 (by simp),E09 s names 0 hmem];omega
    refine A58 ((9,Y9 s)::[(4,.s (.one (.ref 710 0))),(5,.s (.one (.mut 20))),(6,C3 i),(16,D3 (List Str) 1 strsC files),(17,C3 files.length),(18,C3 i),(23,D3 Str 1 R5 f),(24,C3 f.length),(25,C3 j)]) [(20,.tarr files.length 1 ((P7 files i).set i (.buf 713 Int 1 E4 (ids)))),(710,.box [.mut 711,.buf 712 Str 1 R5 (names)]),(711,.map Str o8 (A30 (names) 0)),(712,.spare (names).length 1 9),(713,.spare (ids).length 1 3)] (Sees.of ⟨le1 rfl,le1 rfl,le1 rfl,le1 rfl,le1 rfl,le1 rfl,le1 rfl,le1 rfl,le1 rfl,le1 rfl,trivial⟩ ⟨rfl,rfl,rfl,rfl,rfl,trivial⟩) ?_
    refine P3 [12,10,8] [[],[8],[10,8],[12,10,8]] [(8,([712],[])),(10,([713],[34])),(12,([],[]))] [(0,[]),(1,[]),(2,[]),(3,[]),(4,[]),(5,[]),(6,[]),(7,[]),(8,[]),(9,[8]),(10,[8]),(11,[10,8]),(12,[10,8])] [(0,[8]),(0,[10,8]),(1,[8]),(1,[10,8]),(2,[8]),(3,[8]),(4,[8]),(5,[8])] (by kernel_rfl) (by kernel_rfl) (E9 J J (by kernel_rfl) J J (B9 J J) (E9 J J (by kernel_rfl) J J (B9 J J) (E9 J J (by kernel_rfl) J J (B9 J J) (E9 J J (by kernel_rfl) J J (B9 J J) (E9 J J (by kernel_rfl) J J (S0 J J J (by omega) (by omega)) (E9 J J (by kernel_rfl) J J (x7 J J (by first | exact hTi | exact hTi2)) ?_))))));refine E9 J J (by kernel_rfl) J J (B9 J J) (E9 J J (by kernel_rfl) J J (B9 J J) (Y2 J J (by kernel_rfl) J J (r_met (fun gf=>tid_new names s hmem (by omega) J J J) J J) J (E9 J J (by kernel_rfl) J J (C5 (c:=E4) (ys:=[(names.length:Int)]) (E0 J J J J G5) J J J) (Y2 J J (by kernel_rfl) J J (D48 (fun frc hU=>J7 (S2 hU J) J (S2 hU J) (.pure _ _ _ _) (by (simp only [K87,K90];omega)) J)) J (E9 J J (by kernel_rfl) J J (S0 J J J (by omega) (by omega)) (Y2 J J (by kernel_rfl) J J (A61 (fun frc hU=>B80 TySz.out (S2 hU J) J (by (simp;omega)) (S2 hU J) J)) J ?_))))));refine F73 (by kernel_rfl) rfl ?_ ?_
    ·refine O1 J J (by kernel_rfl) J J (B9 J J) (O1 J J (by kernel_rfl) J J (B9 J J) (O1 J J (by kernel_rfl) J J (B9 J J) (O1 J J (by kernel_rfl) J J (B9 J J) (O1 J J (by kernel_rfl) J J (B9 J J) (O1 J J (by kernel_rfl) J J (B9 J J) (O1 J J (by kernel_rfl) J J (S0 J J J (by omega) (by omega)) (O1 J J (by kernel_rfl) J J (x7 J J (by first | exact hTi | exact hTi2)) ?_)))))));exact B84
    refine A58 [(4,.s (.one (.ref 710 0))),(5,.s (.one (.mut 20))),(6,C3 i),(16,D3 (List Str) 1 strsC files),(17,C3 files.length),(18,C3 i),(23,D3 Str 1 R5 f),(24,C3 f.length),(25,C3 j)] [(20,.tarr files.length 1 ((P7 files i).set i (.buf 713 Int 1 E4 (ids++[(names.length:Int)])))),(710,.box [.mut 711,.buf 712 Str 1 R5 (names++[s])]),(711,.map Str o8 (A30 (names++[s]) 0)),(712,.spare (names++[s]).length 1 9),(713,.spare (ids++[(names.length:Int)]).length 1 3)] (by rw [K84 i,I56,hkv];exact Sees.of ⟨le1 rfl,le1 rfl,le1 rfl,le1 rfl,le1 rfl,le1 rfl,le1 rfl,le1 rfl,le1 rfl,trivial⟩ ⟨rfl,rfl,rfl,rfl,rfl,trivial⟩) ?_
    refine A2 (D6 J J J (A3 J J (A4 ?_)));refine k1 ?_
    exact ⟨j+1,hlt2,by omega,by rw [hstep,hnext,hpl];exact Sees.of ⟨le1 rfl,le1 rfl,le1 rfl,le1 rfl,le1 rfl,le1 rfl,le1 rfl,le1 rfl,le1 rfl,trivial⟩ ⟨rfl,rfl,rfl,rfl,rfl,trivial⟩⟩
  ·have hj2:j=f.length:=by have:=A1 ht;omega
   subst hj2
   rw [K89]
   refine k6 (k7 (k7 (k8 J (k4 (k1 (D8 (Sees.forget 713) ?_))))))
   have hfr:((P7 files i).set i (.buf 713 Int 1 E4 (N0 (H5 files) f))).map (TC.forget 713)=P7 files (i+1):=by rw [hf];exact G78 files i 713 hlt
   have hnr:P1 files (i+1) 0=P1 files i f.length:=by rw [hf];exact H81 files i
   refine A58 [(4,.s (.one (.ref 710 0))),(5,.s (.one (.mut 20))),(16,D3 (List Str) 1 strsC files),(17,C3 files.length),(18,C3 i)] [(710,.box [.mut 711,.buf 712 Str 1 R5 (P1 files (i+1) 0)]),(711,.map Str o8 (A30 (P1 files (i+1) 0) 0)),(712,.spare (P1 files (i+1) 0).length 1 9),(20,.tarr files.length 1 (P7 files (i+1)))] (by rw [hnr,←hfr];exact Sees.of ⟨le1 rfl,le1 rfl,le1 rfl,le1 rfl,le1 rfl,trivial⟩ ⟨rfl,rfl,rfl,rfl,trivial⟩) ?_
   refine A2 (D6 J J J (A3 J J (A4 ?_)));refine k1 ?_
   exact ⟨i+1,hlt,by omega,Sees.of ⟨le1 rfl,le1 rfl,le1 rfl,le1 rfl,le1 rfl,trivial⟩ ⟨rfl,rfl,rfl,rfl,trivial⟩⟩
 ·have hi2:i=files.length:=by have:=A1 ht;omega
  rw [hi2,H82]
  refine D8 (K81 20 (c:=intsC) (files.map (N0 (H5 files))) J (by simp) (I90 files)) ?_
  refine D8 (Sees.freeze (k:=20) J) ?_
  refine D8 (Sees.forget 712) ?_
  refine k6 (k2 (E8 (by kernel_rfl) (by kernel_rfl) (E3 J J (E3 J J (B5 (B4 J) J J (B5 (A7 J) J J (B5 (C9 J J J) J J (B5 (I2 J J) J J (B5 (I2 J J) J J (P2 ?_))))))))));refine k1 (k10 ?_)
  exact B6 (Z6 rfl rfl rfl rfl rfl) rfl
theorem G58 (files:List (List Str)) (hn:files.length≤1048576) (hl:files.flatten.length≤536870911):FnOk Tryz.prog 43 [pStrss files] (fun rs=>rs=[pIntss (files.map (N0 (H5 files)))]):=by
 refine FnOk.intro Tryz.func43 (by decide) J J J J ?_
 refine k2 (A2 (A6 J J (A4 ?_)));refine k1 (k2 (A2 (A3 J J (D7 (J78 files hn hl) J J J ?_))));rintro _ rfl;refine A3 J J (H0 J J J (H0 J J J (A6 J J (A6 J J (A4 ?_)))));refine k1 (k2 (A2 (A3 J J (A6 J J (A4 ?_)))));refine k1 (k10 ?_)
 exact B6 (H3 rfl rfl rfl) rfl
set_option maxHeartbeats 1000000
theorem A94 {k:Nat} {ob:Obs} {j:Nat} {o:Ob} (h:B8 (Obs.drop k ob) j=some o):B8 ob j=some o∧j≠k:=by
 by_cases e:j=k
 ·subst e
  exfalso
  have:∀ob:Obs,B8 (Obs.drop j ob) j=none:=by
   intro ob
   induction ob with
   | nil=>rfl
   | cons p r ih =>
    obtain ⟨i,x⟩:=p
    unfold Obs.drop
    cases hb:Nat.beq i j
    ·show B8 ((i,x)::Obs.drop j r) j=none
     rw [C7 (fun e=>by rw [e,Nat.beq_refl] at hb;cases hb)];exact ih
    ·exact ih
  rw [this] at h;cases h
 ·rw [B14 e] at h;exact ⟨h,e⟩
theorem K74 {P:Program} {nt:Nat} {fr:Fr} {ob:Obs} {t k:Nat} {ts:List TC} {cs:List Cell} (ht:F6 fr t=some (.s (.one (.ref k 0)))) (hk:B8 ob k=some (.box ts)) (hp:A35 ts=some cs) (hk0:Nat.blt k 1000000=true) :
  Sees P nt fr ob ((t,.s (.one (.eref Unit cs.length (fun _ j=>cs.getD j (.v undef)) () 0)))::fr) (Obs.drop k ob):=by
 unfold Sees
 intro S G a w hn h
 have hk6:k < 1000000:=by simpa using hk0
 obtain ⟨b,vs,tt,hG,hh,hall⟩:=h.box hk
 have hs:Sim P S fr (Obs.drop k ob) G a w:=h.weakenO fun j o hj=>(A94 hj).1
 have hrd:∀b i z,G3 (Mut S ob G) w b i z→G3 (Mut S (Obs.drop k ob) G) w b i z:=fun b i z hz=>⟨hz.1,fun hm=>hz.2 (hm.imp id fun ⟨q,o,hq,ho⟩=>⟨q,o,(A94 hq).1,ho⟩)⟩
 refine ⟨G,{ hs with facts:=fun i s hi=>?_ }⟩
 by_cases he:t=i
 ·subst he
  rw [E7] at hi
  cases hi
  obtain ⟨b',hb',hu⟩:=h.facts t _ ht
  rw [hG] at hb'
  cases hb'
  refine ⟨b,0,by rw [hu],fun j hj=>?_⟩
  have hc:=m9 hp hall
  obtain ⟨z,hz1,hz2⟩:=hc.get j _ (K82 hj)
  refine ⟨z,⟨by rw [Nat.zero_add];exact O4 hh (by simpa using hz1),?_⟩,?_⟩
  ·rintro (hm | ⟨q,o,hq,ho⟩)
   ·have h1:=h.m0 _ _ hm
    rcases h.old k _ b hk (by rw [hG];rfl) with h2 | ⟨_,h2⟩
    ·omega
    ·omega
   ·obtain ⟨h1,h2⟩:=A94 hq
    exact h2 (h.dis q k _ _ b h1 hk ho.1 (by rw [hG];rfl))
  ·show (cs.getD j (.v undef)).rep _ z
   rw [K88,K82 hj]
   exact Cell.rep_mono hrd _ _ hz2
 ·rw [D4 he] at hi
  exact hs.facts i s hi
end Go.Proofs.YtkahafmcmiiolaaGreatDoor
