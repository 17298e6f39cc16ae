/- Walks of the program's functions. -/
import Derived.Test.YtkahafmcmiiolaaGreatDoorFa
import Derived.Test.YtkahafmcmiiolaaGreatDoorFs
import Derived.Test.YtkahafmcmiiolaaGreatDoorFb
import Derived.Test.YtkahafmcmiiolaaGreatDoorFc
import Derived.Test.YtkahafmcmiiolaaGreatDoorAn
set_option linter.unusedSimpArgs false
namespace Go.Proofs.YtkahafmcmiiolaaGreatDoor
open Go Go.AL
set_option maxRecDepth 100000
set_option maxHeartbeats 1000000
abbrev E38 (l:List Int):Ob:=.arr Int 1 F0 l
abbrev R2 (l:List Int):Ob:=.grow 3 Int 1 F0 l
theorem F26 {gf:Fr} {ob:Obs} (ch opn:List Int) (c:Nat) (hc:c < ch.length) (_hl:ch.length≤1000000) (ho:opn.length≤1000000) (h5:B4 ob 5=some (.box [.mut 753])) (h7:B4 ob 7=some (.box [.mut 754])) (h753:B4 ob 753=some (E38 ch)) (h754:B4 ob 754=some (R2 opn)) :
  AL.Met Tryz.prog 99 [.one (.p (.v (.int .i64 c))),.one (.ref 5 0),.one (.ref 7 0)] gf ob [754]
   (fun rs ob'=>rs=[]∧ob'=(5,.box [.mut 753])::(7,.box [.mut 754])::(753,E38 (if atG ch c < 0 then ch.set c 0 else ch))::(754,R2 (if atG ch c < 0 then opn++[(c:Int)] else opn))::Obs.forget 754 ob):=by
 have hva:=C19 (l:=ch) (p:=(c:Int)) (by omega)
 rw [J62] at hva
 refine AL.Met.introH Tryz.func99 (by decide) rfl rfl rfl (fun hH=>?_)
 refine D9 (J37 754 (l:=[(0,C3 c),(1,.s (.one (.ref 5 0))),(2,.s (.one (.ref 7 0)))]) (L:=[(5,_),(7,_),(753,_),(754,_)]) ⟨le1 rfl,le1 rfl,le1 rfl,trivial⟩ hH (by repeat (first | exact A8 | refine A9 rfl ?_)) ⟨h5,h7,h753,h754,trivial⟩) ?_
 refine k2 (A2 (G3 J J J J (A3 J J (A5 (G8 J J J (by omega) (by omega)) J (A5 (M7 J J hva J) J (G7 J J J (A4 ?_)))))));refine k1 ?_;refine B0 rfl (fun ht=>?_) (fun ht=>?_)
 ·have h1:atG ch c < 0:=A0 ht
  rw [if_pos h1,if_pos h1]
  refine k2 (A2 (G3 J J J J (A3 J J (A5 (G8 J J J (by omega) (by omega)) J (H7 (L2 TySz.out J J (by omega) J J) (A4 ?_))))));refine k1 (A2 (G3 J J J J (A3 J J (A5 (D1 (c:=F0) (ys:=[(c:Int)]) (E5 J J J J H1) J J J) J (D2 (Q8 J J J (.pure _ _ _ _) (by (simp only [J64,J68];omega)) J) J (H7 (C4 TySz.out J J J J J J) (A4 ?_)))))))
  skip
  exact P6 (A31 rfl) (by repeat (first | exact A8 | refine A9 rfl ?_ | refine H2 _ ?_)) (C9 (L:=[(5,_),(7,_),(753,_),(754,_)]) ⟨rfl,rfl,rfl,rfl,trivial⟩ (by repeat (first | exact B8 | refine C0 rfl ?_ | refine J3 _ ?_))) ⟨rfl,rfl⟩
 ·have h1:¬atG ch c < 0:=A1 ht
  rw [if_neg h1,if_neg h1]
  refine k5 ?_
  exact P6 (A31 rfl) (by repeat (first | exact A8 | refine A9 rfl ?_ | refine H2 _ ?_)) (fun _ _ h=>h) ⟨rfl,rfl⟩
def A63 (n i:Nat):List Int:=List.replicate i (-1)++List.replicate (n - i) 0
theorem H50 {n i:Nat} (h:i < n):(A63 n i).set i (-1)=A63 n (i+1):=by
 unfold A63
 rw [List.set_append_right _ _ (by simp),J90,K06,show n - i=(n - (i+1))+1 by omega,List.replicate_succ,List.set_cons_zero,List.replicate_succ',J73];rfl
theorem H51 {n i:Nat} (h:i≤n):(A63 n i).length=n:=by unfold A63;simp;omega
theorem DInv.last {g:Graph} {inn:List Bool} {st:List Int} {k i:Nat} {ch opn D:List Int} (h:DInv g inn st k i ch opn D) (h0:0 < opn.length):∃c:Nat,opn=opn.take (opn.length - 1)++[(c:Int)]∧c < g.length∧opn[opn.length - 1]?=some (c:Int):=by
 have hlt:opn.length - 1 < opn.length:=by omega
 have hm:=h.on opn[opn.length - 1] (List.mem_append_right _ (J66 hlt))
 have e1:opn[opn.length - 1]=(opn[opn.length - 1].toNat:Int):=by omega
 refine ⟨opn[opn.length - 1].toNat,?_,by omega,by rw [J60 hlt];exact congrArg some e1⟩
 have h1:opn.take (opn.length - 1+1)=opn:=J86 (by omega)
 rw [List.take_add_one,J60 hlt,Option.toList_some] at h1
 rw [←e1];exact h1.symm
theorem F88 (g:Graph) (s:List Int) (hf:FewG g) (hr:related g=true) (hs:∀f∈s,0≤f∧f < g.length) (hsl:s.length≤1048576) :
  AL.Met Tryz.prog 64 [.one (.p (.list Commit 3 J5 g)),.one (.p (.list Int 1 F0 s))] [] [] [] (fun rs ob'=>∃ch,rs=[.one (.mut 753)]∧ob'=[(753,E38 ch)]∧ch.length=g.length∧∀p,p < g.length→atG ch p=if K7 (Q9 g s) p=true then (D26 g (Q9 g s) [] p:Int) else -1):=by
 have hg:=hf.len
 have hrs:=B78 hr hs
 have hcl:=B07 hr s hs
 obtain ⟨inn,hinn⟩:∃inn,inn=Q9 g s:=⟨_,rfl⟩
 have hfin:=@DInv.fin g s
 rw [←hinn] at hrs hcl
 refine AL.Met.intro Tryz.func64 (by decide) J J J ?_
 refine k2 (A2 (A6 J J (A4 ?_)));refine k1 (k2 (A2 (A3 J J (F3 J J (D2 (A30 753 Int F0 0 J J (by omega) (by omega) (fun _=>by first | exact ⟨⟨rfl,rfl⟩,trivial⟩ | exact ⟨I5 _ _ _,trivial⟩ | exact ⟨I5 _ _ _,⟨rfl,rfl⟩,I5 _ _ _,trivial⟩) (by first | rfl | (simp [J6,K0,Ob.free,SV.free,S1.free,TC.free]<;>rfl))) J ?_)))));refine D2 (I9 5 J) J (H7 (C4 TySz.out J J J J J J) (A4 ?_));refine k1 (k2 (k2 (A2 (G3 J J J J (A5 (C94 J J) J (A3 J J (A4 ?_)))))));refine k1 (k3 ?_)
 rw [J62]
 refine D6 (X:=Nat) (fun i=>([(0,D5 Commit 3 J5 g),(1,D5 Int 1 F0 s),(5,.s (.one (.ref 5 0))),(18,C3 g.length),(19,C3 i)],[(5,.box [.mut 753]),(753,E38 (A63 g.length i))])) (fun i=>i≤g.length) (fun i=>g.length - i) 0 (Nat.zero_le _) (by rw [show A63 g.length 0=List.replicate g.length 0 by unfold A63;simp];exact (Sees.of ⟨le1 rfl,le1 rfl,le1 rfl,leE J (by first | (simp;done) | (simp;omega)),le1 rfl,trivial⟩ ⟨rfl,rfl,trivial⟩)) ?_
 intro i hi
 dsimp only at hi ⊢
 have hil:=H51 hi
 refine k2 (A2 (G7 J J J (A4 ?_)));refine k1 (k2 ?_);refine B0 rfl (fun ht=>?_) (fun ht=>?_)
 ·have hlt:i < g.length:=by have h1:=A0 ht;(try dsimp only at h1);omega
  have hst:=H50 hlt
  refine k5 (k1 (k2 (k3 (k2 (A2 (A3 J J (A6 J J (A4 ?_))))))));refine k1 (A2 (G3 J J J J (A3 J J (A5 (G8 J J J (by omega) (by (rw [hil];omega))) J ?_))));refine H7 (L2 TySz.out J J (by (rw [hil];omega)) J J) ?_;refine A4 ?_;refine k4 (k1 (A2 (E4 J J J (A3 J J (A4 ?_)))));refine k1 ?_;refine ⟨i+1,by omega,by omega,?_⟩
  rw [J62,hst]
  exact (Sees.of ⟨le1 rfl,le1 rfl,le1 rfl,le1 rfl,le1 rfl,trivial⟩ ⟨rfl,rfl,trivial⟩)
 have hie:i=g.length:=by have h1:=A1 ht;(try dsimp only at h1);omega
 rw [hie,show A63 g.length g.length=List.replicate g.length (-1) by unfold A63;simp]
 have hD0:=DInv.start g inn
 refine k6 (k2 (A2 (D2 (I9 7 J) J (A4 ?_))));refine k1 (k2 (D9 (J41 754 Int 1 F0 3 (kb:=7) (o:=0) J J J) ?_))
 refine A2 (A5 (m8 J J) J (A6 J J (A4 ?_)));refine k1 (k2 (k2 (A2 (A3 J J (F3 J J (A3 J J (A4 ?_)))))));refine k1 (k3 (D6 (X:=Nat × List Int × List Int) (fun x=>([(0,D5 Commit 3 J5 g),(5,.s (.one (.ref 5 0))),(7,.s (.one (.ref 7 0))),(8,.s (.one (.clo 99 [] [(5,0),(7,0)]))),(27,D5 Int 1 F0 s),(28,C3 s.length),(29,C3 x.1)],[(5,.box [.mut 753]),(7,.box [.mut 754]),(753,E38 x.2.1),(754,R2 x.2.2)])) (fun x=>x.1≤s.length∧DInv g inn (s.take x.1) 0 0 x.2.1 x.2.2 []) (fun x=>s.length - x.1) (0,List.replicate g.length (-1),[]) ⟨Nat.zero_le _,hD0⟩ (Sees.of ⟨le1 rfl,le1 rfl,le1 rfl,le1 rfl,le1 rfl,le1 rfl,le1 rfl,trivial⟩ ⟨rfl,rfl,rfl,rfl,trivial⟩) ?_))
 rintro ⟨j,ch,opn⟩ ⟨hj,hD⟩
 dsimp only at hj hD ⊢
 have hDl:=hD.le
 have hchl:=hD.len
 rw [J68,Nat.zero_add] at hDl
 refine k2 (A2 (G7 J J J (A4 ?_)));refine k1 (k2 ?_);refine B0 rfl (fun ht=>?_) (fun ht=>?_)
 ·have hlt:j < s.length:=by have h1:=A0 ht;(try dsimp only at h1);omega
  have hsr:=hs _ (J66 hlt)
  obtain ⟨c,hc⟩:∃c:Nat,s[j]=(c:Int):=⟨s[j].toNat,by omega⟩
  have hv:s[j]?=some (c:Int):=by rw [J60 hlt,hc]
  have hcg:c < g.length:=by omega
  have hon:K7 inn c=true:=(hrs c).2 ⟨c,by rw [←hc];exact J66 hlt,.inl rfl⟩
  obtain ⟨hD2,_⟩:=hD.reach (Nat.le_refl _) hcg hon (s.take (j+1)) (fun f hf=>by
   rw [Q1 hlt] at hf
   rcases hf with hf | hf
   ·exact .inl hf
   ·right;rw [hf,hc])
  refine k5 (k1 (k2 (k3 (k2 (A2 (A5 (B3 J (.pure _ _ _ _) J (by omega) hv) J (A5 (B1 J J) J (A6 J J (A4 ?_)))))))));refine k1 (A2 (A3 J J (A3 J J (A96 (F26 ch opn c (by omega) (by omega) (by omega) J J J J) J J J J ?_))));rintro _ _ ⟨rfl,rfl⟩;refine A4 ?_;refine k4 (k1 (A2 (E4 J J J (A3 J J (A4 ?_)))));refine k1 ?_
  exact ⟨(j+1,if atG ch c < 0 then ch.set c 0 else ch,if atG ch c < 0 then opn++[(c:Int)] else opn),⟨hlt,hD2⟩,by dsimp only;omega,(Sees.of ⟨le1 rfl,le1 rfl,le1 rfl,le1 rfl,le1 rfl,le1 rfl,le1 rfl,trivial⟩ ⟨rfl,rfl,rfl,rfl,trivial⟩)⟩
 have hje:j=s.length:=by have h1:=A1 ht;(try dsimp only at h1);omega
 rw [hje,J67] at hD
 refine k6 (k2 (k3 (D6 (X:=List Int × List Int × List Int) (fun x=>([(0,D5 Commit 3 J5 g),(5,.s (.one (.ref 5 0))),(7,.s (.one (.ref 7 0))),(8,.s (.one (.clo 99 [] [(5,0),(7,0)])))],[(5,.box [.mut 753]),(7,.box [.mut 754]),(753,E38 x.1),(754,R2 x.2.1)])) (fun x=>DInv g inn s x.2.2.length 0 x.1 x.2.1 x.2.2) (fun x=>g.length - x.2.2.length) (ch,opn,[]) hD (Sees.of ⟨le1 rfl,le1 rfl,le1 rfl,le1 rfl,trivial⟩ ⟨rfl,rfl,rfl,rfl,trivial⟩) ?_)))
 rintro ⟨ch,opn,D⟩ hD
 dsimp only at hD ⊢
 have hDl:=hD.le
 have hchl:=hD.len
 refine k2 (k2 (A2 (G3 J J J J (A5 (T3 J J) J (A5 (R8 J J) J (A4 ?_))))));refine k1 ?_;refine B0 rfl (fun ht=>?_) (fun ht=>?_)
 rotate_left
 ·have h1:opn=[]:=by
   have h1:=A1 ht
   exact List.length_eq_zero_iff.1 (by omega)
  rw [h1] at hD
  have hF:=hfin hr hs (by rw [←hinn];exact hD)
  refine k6 (k2 (A2 (G3 J J J J (A6 J J (A4 ?_)))));refine k1 (k10 ?_)
  exact E0 (H9 rfl rfl) (by repeat (first | exact A8 | refine A9 rfl ?_ | refine B6 _ ?_)) (ObIn.spec (ob':=[(753,E38 ch)]) ⟨rfl,trivial⟩) ⟨ch,rfl,rfl,hchl,hF⟩
 have h0:0 < opn.length:=by have h1:=A0 ht;omega
 obtain ⟨c,e1,hcg,hvl⟩:=DInv.last hD h0
 obtain ⟨opn1,hop⟩:∃opn1,opn1=opn.take (opn.length - 1):=⟨_,rfl⟩
 have hvl:opn[((opn.length:Int) - 1).toNat]?=some (c:Int):=by rw [show ((opn.length:Int) - 1).toNat=opn.length - 1 by omega];exact hvl
 have hcut:opn.take ((opn.length:Int) - 1).toNat=opn1:=by rw [hop];congr 1;omega
 rw [←hop] at e1
 have hP:=(by rw [e1] at hD;exact hD:DInv g inn s D.length 0 ch (opn1++[(c:Int)]) D).pop
 obtain ⟨cm,hcm⟩:∃cm,cm=g[c]:=⟨_,rfl⟩
 have hvc:g[((c:Nat):Int).toNat]?=some cm:=by rw [hcm];simp [hcg]
 have hps:F1 g c=cm.Parents:=by rw [u7 hcg,hcm]
 have hpl:=hf.pars cm (by rw [hcm];exact J66 hcg)
 have honc:K7 inn c=true:=by
  have:=(hP.on (c:Int) (by simp)).2.2
  rwa [J62] at this
 have hgD:(D++[(c:Int)]).getD D.length 0=(c:Int):=by
  rw [J65,J74 (Nat.le_refl _),K06];rfl
 refine k5 (k1 (k3 (k2 (A2 (G3 J J J J (G3 J J J J (A5 (T3 J J) J (A5 (K1 J J (by omega)) J (A5 (H0 J J J (by omega) (by omega)) J (A5 (t6 J J hvl J) J (A6 J J (A4 ?_))))))))))));refine k1 (k2 (A2 (G3 J J J J (G3 J J J J (A5 (T3 J J) J (A5 (K1 J J (by omega)) J (D2 (A37 J J J (by omega) (by omega) J) J (H7 (C4 TySz.out J J J J J J) (A4 ?_)))))))))
 rw [hcut]
 refine k1 (k2 (A2 (A3 J J (A3 J J (A5 (B3 J (.pure _ _ _ _) J (by omega) hvc) J (A5 (C5 J) J (A5 (B1 J J) J (F3 J J (A3 J J (A4 ?_))))))))));refine k1 (k3 (D6 (X:=Nat × List Int × List Int) (fun x=>([(0,D5 Commit 3 J5 g),(5,.s (.one (.ref 5 0))),(7,.s (.one (.ref 7 0))),(8,.s (.one (.clo 99 [] [(5,0),(7,0)]))),(55,D5 Int 1 F0 cm.Parents),(56,C3 cm.Parents.length),(57,C3 x.1)],[(5,.box [.mut 753]),(7,.box [.mut 754]),(753,E38 x.2.1),(754,R2 x.2.2)])) (fun x=>x.1≤cm.Parents.length∧DInv g inn s D.length x.1 x.2.1 x.2.2 (D++[(c:Int)])) (fun x=>cm.Parents.length - x.1) (0,ch,opn1) ⟨Nat.zero_le _,hP⟩ (Sees.of ⟨le1 rfl,le1 rfl,le1 rfl,le1 rfl,le1 rfl,le1 rfl,le1 rfl,trivial⟩ ⟨rfl,rfl,rfl,rfl,trivial⟩) ?_))
 rintro ⟨i,ch,opn⟩ ⟨hi,hD⟩
 dsimp only at hi hD ⊢
 have hDl:=hD.le
 have hchl:=hD.len
 rw [J63,List.length_singleton] at hDl
 refine k2 (A2 (G7 J J J (A4 ?_)));refine k1 (k2 ?_);refine B0 rfl (fun ht=>?_) (fun ht=>?_)
 rotate_left
 ·have h1:i=cm.Parents.length:=by have h1:=A1 ht;(try dsimp only at h1);omega
  rw [h1,←hps] at hD
  have hN:=hD.next (k:=D.length) (by simp) hgD
  refine k6 (k7 (k7 (k8 J (k4 (k1 ?_)))))
  exact ⟨(ch,opn,D++[(c:Int)]),hN,by dsimp only;rw [J63,List.length_singleton];omega,(Sees.of ⟨le1 rfl,le1 rfl,le1 rfl,le1 rfl,trivial⟩ ⟨rfl,rfl,rfl,rfl,trivial⟩)⟩
 have hilt:i < cm.Parents.length:=by have h1:=A0 ht;(try dsimp only at h1);omega
 have hpb:=(K5 hr c).1 cm.Parents[i] (by rw [hps];exact J66 hilt)
 obtain ⟨p,hp⟩:∃p:Nat,cm.Parents[i]=(p:Int):=⟨cm.Parents[i].toNat,by omega⟩
 have hvp:cm.Parents[i]?=some (p:Int):=by rw [J60 hilt,hp]
 have hpg:p < g.length:=by omega
 have honp:K7 inn p=true:=by
  have:=hcl c honc (p:Int) (by rw [hps,←hp];exact J66 hilt)
  rwa [J62] at this
 obtain ⟨hD2,hm2⟩:=hD.reach (by simp) hpg honp s (fun f hf=>.inl hf)
 obtain ⟨q1,q2,hD3⟩:=hD2.count hr hgD (i:=i) (p:=p) (by rw [hps];exact hilt) (by simp only [hps];exact hp) hm2
 have hl2:=hD2.len
 refine k5 (k1 (k2 (k3 (k2 (A2 (A5 (B3 J (.pure _ _ _ _) J (by omega) hvp) J (A5 (B1 J J) J (A6 J J (A4 ?_)))))))));refine k1 (k2 (A2 (A3 J J (A3 J J (A96 (F26 ch opn p (by omega) (by omega) (by omega) J J J J) J J J J ?_)))));rintro _ _ ⟨rfl,rfl⟩;refine A4 ?_
 obtain ⟨ch2,hch2⟩:∃ch2,ch2=(if atG ch p < 0 then ch.set p 0 else ch):=⟨_,rfl⟩
 obtain ⟨opn2,hopn2⟩:∃opn2,opn2=(if atG ch p < 0 then opn++[(p:Int)] else opn):=⟨_,rfl⟩
 rw [←hch2] at q1 q2 hl2
 rw [←hch2,←hopn2] at hD3 ⊢
 have hva:=C19 (l:=ch2) (p:=(p:Int)) (by omega)
 refine k1 (A2 (G3 J J J J (A3 J J (A5 (G8 J J J (by omega) (by (rw [hl2];omega))) J ?_))));refine A5 (M7 J J hva J) J (A5 (q9 J J (by (rw [J62];omega))) J ?_);refine A5 (G8 J J J (by omega) (by (rw [hl2];omega))) J ?_;refine H7 (L2 TySz.out J J (by (rw [hl2];omega)) J J) ?_;refine A4 ?_;refine k4 (k1 (A2 (E4 J J J (A3 J J (A4 ?_)))));refine k1 ?_
 exact ⟨(i+1,bump ch2 p,opn2),⟨hilt,hD3⟩,by dsimp only;omega,(Sees.of ⟨le1 rfl,le1 rfl,le1 rfl,le1 rfl,le1 rfl,le1 rfl,le1 rfl,trivial⟩ ⟨rfl,rfl,rfl,rfl,trivial⟩)⟩
set_option maxHeartbeats 1000000
abbrev B02 (g:Graph):Ob:=.box [.mut 741,.fnc 65 [.list Commit 3 J5 g]]
abbrev sI (n:Int):S1:=.one (.p (.v (.int .i64 n)))
abbrev sIf (n:Int):S1:=.one (.p (.v (.iface 3 (.int .i64 n))))
abbrev E97:S1:=.one (.ifc 121 740 0)
theorem I10 {g:Graph} {c:Int} (h:0≤c∧c < g.length):∃cm,g[c.toNat]?=some cm∧x5 g c.toNat=cm.Date:=by
 have hlt:c.toNat < g.length:=by omega
 exact ⟨g[c.toNat],by simp [hlt],by unfold x5;rw [J60 hlt];rfl⟩
theorem I57 (g:Graph) (a b:Int) (_hg:g.length≤1048576) (ha:0≤a∧a < g.length) (hb:0≤b∧b < g.length):FnOk Tryz.prog 65 [P1 g,G1 a,G1 b] (fun rs=>rs=[J2 (Q6 g a b)]):=by
 obtain ⟨x,hx,dx⟩:=I10 ha
 obtain ⟨y,hy,dy⟩:=I10 hb
 unfold Q6
 rw [dx,dy]
 refine FnOk.intro Tryz.func65 (by decide) J J J J ?_
 refine k2 (A2 (A6 J J (A4 ?_)));refine k1 (k2 (k2 (F5 (by kernel_rfl) (by kernel_rfl) (F9 J J (F9 J J (B5 (B3 J (.pure _ _ _ _) J (by omega) hx) J J (B5 (C5 J) J J (B5 (B1 J J) J J (F9 J J (F9 J J (B5 (B3 J (.pure _ _ _ _) J (by omega) hy) J J (B5 (C5 J) J J (B5 (B1 J J) J J (B5 (T9 J J) J J (R1 ?_)))))))))))))));refine k1 ?_;refine B0 rfl (fun ht=>?_) (fun ht=>?_)
 ·have h1:x.Date≠y.Date:=A0 ht
  refine k2 (F5 (by kernel_rfl) (by kernel_rfl) (F9 J J (F9 J J (B5 (B3 J (.pure _ _ _ _) J (by omega) hx) J J (B5 (C5 J) J J (B5 (B1 J J) J J (F9 J J (F9 J J (B5 (B3 J (.pure _ _ _ _) J (by omega) hy) J J (B5 (C5 J) J J (B5 (B1 J J) J J (B5 (R8 J J) J J (B5 (J8 J J) J J (R1 ?_))))))))))))));refine k1 (k10 (k11 ?_));refine B7 (I4 rfl rfl rfl) (congrArg (fun b=>[J2 b]) (decide_eq_decide.2 ?_))
  omega
 ·have h1:¬x.Date≠y.Date:=A1 ht
  refine k5 (k1 (k2 (A2 (A3 J J (A3 J J (G7 J J J (A6 J J (A4 ?_))))))));refine k1 (k10 ?_);refine B7 (I4 rfl rfl rfl) (congrArg (fun b=>[J2 b]) (decide_eq_decide.2 ?_))
  omega
theorem E39 {gf:Fr} {ob:Obs} (g:Graph) (l:List Int) (h0:B4 ob 740=some (B02 g)) (h1:B4 ob 741=some (R2 l)) :
  AL.Met Tryz.prog 67 [.one (.ref 740 0)] gf ob [] (fun rs ob'=>rs=[sI l.length]∧ob'=ob):=by
 refine AL.Met.intro Tryz.func67 (by decide) J J J ?_
 refine k2 (A2 (A6 J J (A4 ?_)));refine k1 (k2 (A2 (A3 J J (A5 (B2 J) J (A5 (A7 J) J (A5 (C6 J h0 J) J (A5 (T3 J h1) J (A6 J J (A4 ?_)))))))));refine k1 (k10 ?_)
 exact E0 (H9 rfl rfl) (by repeat (first | exact A8 | refine A9 rfl ?_ | refine B6 _ ?_)) (fun _ _ h=>h) ⟨rfl,rfl⟩
theorem D12 {gf:Fr} {ob:Obs} (g:Graph) (l:List Int) (i j:Nat) (hg:g.length≤1048576) (hl:∀x∈l,0≤x∧x < (g.length:Int)) (hi:i < l.length) (hj:j < l.length) (h0:B4 ob 740=some (B02 g)) (h1:B4 ob 741=some (R2 l)) :
  AL.Met Tryz.prog 221 [.one (.ref 740 0),sI i,sI j] gf ob [] (fun rs ob'=>rs=[.one (.p (.v (.bool (Q6 g (atG l i) (atG l j)))))]∧ob'=ob):=by
 have hvi:l[((i:Nat):Int).toNat]?=some (atG l i):=by rw [J62,O1 hi];simp [hi]
 have hvj:l[((j:Nat):Int).toNat]?=some (atG l j):=by rw [J62,O1 hj];simp [hj]
 have hb:=I57 g (atG l i) (atG l j) hg (by rw [O1 hi];exact hl _ (J66 hi)) (by rw [O1 hj];exact hl _ (J66 hj))
 refine AL.Met.intro Tryz.func221 (by decide) J J J ?_
 refine k2 (A2 (A6 J J (A4 ?_)));refine k1 (k2 (F5 (by kernel_rfl) (by kernel_rfl) (F9 J J (B5 (B2 J) J J (B5 (A7 J) J J (B5 (C6 J h0 J) J J (F9 J J (B5 (B2 J) J J (B5 (A7 J) J J (B5 (C6 J h0 J) J J (F9 J J (B5 (H0 J h1 J (by omega) (by omega)) J J (B5 (t6 J h1 hvi J) J J (F9 J J (B5 (B2 J) J J (B5 (A7 J) J J (B5 (C6 J h0 J) J J (F9 J J (B5 (H0 J h1 J (by omega) (by omega)) J J (B5 (t6 J h1 hvj J) J J (B5 (n_callC (hb) J J J) J J (B5 (J8 J J) J J (R1 ?_)))))))))))))))))))))));refine k1 (k10 ?_)
 exact E0 (H9 rfl rfl) (by repeat (first | exact A8 | refine A9 rfl ?_ | refine B6 _ ?_)) (fun _ _ h=>h) ⟨rfl,rfl⟩
theorem D13 {gf:Fr} {ob:Obs} (g:Graph) (l:List Int) (i j:Nat) (hi:i < l.length) (hj:j < l.length) (h0:B4 ob 740=some (B02 g)) (h1:B4 ob 741=some (R2 l)) :
  AL.Met Tryz.prog 224 [.one (.ref 740 0),sI i,sI j] gf ob [] (fun rs ob'=>rs=[]∧ob'=(741,R2 (X6 l i j))::ob):=by
 have hvi:l[((i:Nat):Int).toNat]?=some (atG l i):=by rw [J62,O1 hi];simp [hi]
 have hvj:l[((j:Nat):Int).toNat]?=some (atG l j):=by rw [J62,O1 hj];simp [hj]
 obtain ⟨a,ha⟩:∃a,a=atG l i:=⟨_,rfl⟩
 obtain ⟨b,hb⟩:∃b,b=atG l j:=⟨_,rfl⟩
 rw [←ha] at hvi
 rw [←hb] at hvj
 have hvj2:(l.set ((i:Nat):Int).toNat b)[((j:Nat):Int).toNat]?=some (atG (l.set i b) j):=by
  rw [J62,J62]
  have:j < (l.set i b).length:=by rw [J83];exact hj
  rw [O1 this];simp [hj]
 have hsw:(l.set ((i:Nat):Int).toNat b).set ((j:Nat):Int).toNat a=X6 l i j:=by rw [ha,hb];rfl
 have h0':B4 ((741,R2 l)::ob) 740=some (B02 g):=by rw [B9 (by decide)];exact h0
 refine AL.Met.introH Tryz.func224 (by decide) rfl rfl rfl (fun hH=>?_)
 refine D9 (J36 (l:=[(0,.s (.one (.ref 740 0))),(1,C3 i),(2,C3 j)]) (ob':=(741,R2 l)::ob) ⟨le1 rfl,le1 rfl,le1 rfl,trivial⟩ hH (by repeat (first | exact A8 | refine A9 rfl ?_)) (C9 (L:=[(741,_)]) ⟨h1,trivial⟩ B8)) ?_
 skip
 refine N6 [27,25] [[],[25],[27,25]] [(25,([],[])),(27,([],[]))] [(0,[]),(1,[]),(2,[]),(3,[]),(4,[]),(5,[]),(6,[]),(7,[]),(8,[]),(9,[]),(10,[]),(11,[]),(12,[]),(13,[]),(14,[]),(15,[]),(16,[]),(17,[]),(18,[]),(19,[]),(20,[]),(21,[]),(22,[]),(23,[]),(24,[]),(25,[]),(26,[25]),(27,[25])] [(9,[25])] (by kernel_rfl) (by kernel_rfl) (E2 J J (by kernel_rfl) J J (C8 J J) (E2 J J (by kernel_rfl) J J (B2 J) (E2 J J (by kernel_rfl) J J (A7 J) (E2 J J (by kernel_rfl) J J (C6 J h0' J) (E2 J J (by kernel_rfl) J J (C8 J J) (E2 J J (by kernel_rfl) J J (C8 J J) (E2 J J (by kernel_rfl) J J (B2 J) (E2 J J (by kernel_rfl) J J (A7 J) (E2 J J (by kernel_rfl) J J (C6 J h0' J) (E2 J J (by kernel_rfl) J J (C8 J J) (E2 J J (by kernel_rfl) J J (C8 J J) (E2 J J (by kernel_rfl) J J (B2 J) (E2 J J (by kernel_rfl) J J (A7 J) (E2 J J (by kernel_rfl) J J (C6 J h0' J) (E2 J J (by kernel_rfl) J J (C8 J J) (E2 J J (by kernel_rfl) J J (H0 J J J (by omega) (by omega)) (E2 J J (by kernel_rfl) J J (t6 J J hvj J) (E2 J J (by kernel_rfl) J J (C8 J J) (E2 J J (by kernel_rfl) J J (B2 J) (E2 J J (by kernel_rfl) J J (A7 J) (E2 J J (by kernel_rfl) J J (C6 J h0' J) (E2 J J (by kernel_rfl) J J (C8 J J) (E2 J J (by kernel_rfl) J J (H0 J J J (by omega) (by (first | omega | (rw [J83];omega)))) ?_)))))))))))))))))))))));refine E2 J J (by kernel_rfl) J J (t6 J J hvi J) (E2 J J (by kernel_rfl) J J (H0 J J J (by omega) (by omega)) (U9 J J (by kernel_rfl) J J (A34 (fun frc hU=>m7 (b) TySz.out (Q5 hU J) J hvi (Q5 hU J) J J J (fun _ _ _ h=>r9 h) (by intro j h1 h2;rcases j with _ | _ | _ | _ | _ | _ | _ | j<;>first | rfl | omega))) J ?_));refine E2 J J (by kernel_rfl) J J (H0 J J J (by omega) (by (rw [J83];omega))) ?_;refine U9 J J (by kernel_rfl) J J (A34 (fun frc hU=>m7 (a) TySz.out (Q5 hU J) J hvj2 (Q5 hU J) J J J (fun _ _ _ h=>r9 h) (by intro j h1 h2;rcases j with _ | _ | _ | _ | _ | _ | _ | j<;>first | rfl | omega))) J ?_;refine F12 (by kernel_rfl) rfl ?_ ?_
 ·refine M2 J J (by kernel_rfl) J J (C8 J J) ?_;exact B41
 rw [hsw]
 skip
 exact P6 (A31 rfl) (by repeat (first | exact A8 | refine tail_drop rfl ?_ | refine A9 rfl ?_)) (C9 (L:=[(741,_)]) ⟨rfl,trivial⟩ (by repeat (first | exact B8 | refine C0 rfl ?_))) ⟨rfl,rfl⟩
theorem I58 {gf:Fr} {ob:Obs} (g:Graph) (l:List Int) (c:Int) (hl:l.length≤1048576) (h0:B4 ob 740=some (B02 g)) (h1:B4 ob 741=some (R2 l)) :
  AL.Met Tryz.prog 223 [.one (.ref 740 0),sIf c] gf ob [741] (fun rs ob'=>rs=[]∧ob'=(740,B02 g)::(741,R2 (l++[c]))::Obs.forget 741 ob):=by
 refine AL.Met.introH Tryz.func223 (by decide) rfl rfl rfl (fun hH=>?_)
 refine D9 (J37 741 (l:=[(0,.s (.one (.ref 740 0))),(1,.s (sIf c))]) (L:=[(740,_),(741,_)]) ⟨le1 rfl,le1 rfl,trivial⟩ hH (by repeat (first | exact A8 | refine A9 rfl ?_)) ⟨h0,h1,trivial⟩) ?_
 skip
 refine N6 [11,8] [[],[8],[11,8]] [(8,([741],[8])),(11,([],[]))] [(0,[]),(1,[]),(2,[]),(3,[]),(4,[]),(5,[]),(6,[]),(7,[]),(8,[]),(9,[8]),(10,[8]),(11,[8])] [(0,[8])] (by kernel_rfl) (by kernel_rfl) (E2 J J (by kernel_rfl) J J (C8 J J) (E2 J J (by kernel_rfl) J J (C8 J J) (E2 J J (by kernel_rfl) J J (B2 J) (E2 J J (by kernel_rfl) J J (A7 J) (E2 J J (by kernel_rfl) J J (C6 J J J) (E2 J J (by kernel_rfl) J J (C8 J J) (E2 J J (by kernel_rfl) J J (D37 J J) (E2 J J (by kernel_rfl) J J (D1 (c:=F0) (ys:=[c]) (E5 J J J J H1) J J J) (U9 J J (by kernel_rfl) J J (D04 (fun frc hU=>Q8 (Q5 hU J) J (Q5 hU J) (.pure _ _ _ _) (by (simp only [J64,J68];omega)) J)) J (E2 J J (by kernel_rfl) J J (B2 J) (E2 J J (by kernel_rfl) J J (A7 J) (U9 J J (by kernel_rfl) J J (A34 (fun frc hU=>C4 TySz.out (Q5 hU J) J (Q5 hU J) J J J)) J ?_))))))))))));refine D05 (ks:=[741]) rfl (by kernel_rfl) rfl ?_ ?_
 ·refine M2 J J (by kernel_rfl) J J (C8 J J) ?_;exact B41
 skip
 exact P6 (A31 rfl) (by repeat (first | exact A8 | refine tail_drop rfl ?_ | refine A9 rfl ?_ | refine H2 _ ?_ | refine B6 _ ?_)) (C9 (L:=[(740,_),(741,_)]) ⟨rfl,rfl,trivial⟩ (by repeat (first | exact B8 | refine C0 rfl ?_ | refine J3 _ ?_))) ⟨rfl,rfl⟩
theorem J16 {gf:Fr} {ob:Obs} (g:Graph) (l:List Int) (hl:l.length≤1048576) (h2:0 < l.length) (h0:B4 ob 740=some (B02 g)) (h1:B4 ob 741=some (R2 l)) :
  AL.Met Tryz.prog 222 [.one (.ref 740 0)] gf ob [741] (fun rs ob'=>rs=[sIf (atG l (l.length - 1))]∧ob'=(740,B02 g)::(741,R2 (l.take (l.length - 1)))::Obs.forget 741 ob):=by
 have hlt:l.length - 1 < l.length:=by omega
 have hv:l[((l.length:Int) - 1).toNat]?=some (atG l (l.length - 1)):=by rw [show ((l.length:Int) - 1).toNat=l.length - 1 by omega,O1 hlt];simp [hlt]
 have hc:l.take ((l.length:Int) - 1).toNat=l.take (l.length - 1):=by congr 1;omega
 refine AL.Met.introH Tryz.func222 (by decide) rfl rfl rfl (fun hH=>?_)
 refine D9 (J37 741 (l:=[(0,.s (.one (.ref 740 0)))]) (L:=[(740,_),(741,_)]) ⟨le1 rfl,trivial⟩ hH (by repeat (first | exact A8 | refine A9 rfl ?_)) ⟨h0,h1,trivial⟩) ?_
 refine k2 (A2 (A6 J J (A4 ?_)));refine k1 (k2 (A2 (A3 J J (A5 (B2 J) J (A5 (A7 J) J (G3 J J J J (A5 (T3 J J) J (A5 (K1 J J (by omega)) J (A6 J J (A4 ?_))))))))));refine k1 (k2 (A2 (A3 J J (A5 (B2 J) J (A5 (A7 J) J (G3 J J J J (A3 J J (A5 (H0 J J J (by omega) (by omega)) J (A5 (t6 J J hv J) J (A6 J J (A4 ?_)))))))))));refine k1 (k2 (A2 (A3 J J (A3 J J (A5 (B2 J) J (A5 (A7 J) J (G3 J J J J (A3 J J (D2 (A37 J J J (by omega) (by omega) J) J (A5 (B2 J) J (A5 (A7 J) J (H7 (C4 TySz.out J J J J J J) (A4 ?_)))))))))))))
 rw [hc]
 refine k1 (k2 (A2 (A3 J J (A5 (C17 J (by kernel_rfl)) J (A6 J J (A4 ?_))))));refine k1 (k10 ?_)
 exact E0 (H9 rfl rfl) (by repeat (first | exact A8 | refine A9 rfl ?_ | refine H2 _ ?_ | refine B6 _ ?_)) (C9 (L:=[(740,_),(741,_)]) ⟨rfl,rfl,trivial⟩ (by repeat (first | exact B8 | refine C0 rfl ?_ | refine J3 _ ?_))) ⟨rfl,rfl⟩
theorem up_div (j:Nat) (hj:j≤1048576):IntKind.i64.wrap (((j:Int) - 1).tdiv 2)=(((j - 1) / 2:Nat):Int):=by
 have h:((j:Int) - 1).tdiv 2=(((j - 1) / 2:Nat):Int):=by
  cases j with
  | zero=>rfl
  | succ j =>
   rw [show (((j+1:Nat):Int) - 1)=(j:Int) by omega,Int.tdiv_eq_ediv_of_nonneg (by omega)]
   omega
 rw [h]
 exact IntWalk.i64_in _ ⟨by omega,by omega⟩
theorem E40 {l:List Int} {n:Int} {i j:Nat} (hi:i < l.length) (hj:j < l.length) (h:∀x∈l,0≤x∧x < n):∀x∈X6 l i j,0≤x∧x < n:=fun x hx=>h x ((F45 hi hj x).1 hx)
theorem hUp_met {gf:Fr} {ob:Obs} (g:Graph) (l:List Int) (j:Nat) (hg:g.length≤1048576) (hl:l.length≤1048576) (hr:∀x∈l,0≤x∧x < (g.length:Int)) (hj:j < l.length) (h0:B4 ob 740=some (B02 g)) (h1:B4 ob 741=some (R2 l)) :
  AL.Met Tryz.prog 100 [E97,sI j] gf ob [] (fun rs ob'=>rs=[]∧ob'=(741,R2 (upH (Q6 g) (j+1) l j))::ob):=by
 have h0':∀o,B4 ((741,o)::ob) 740=some (B02 g):=fun o=>by rw [B9 (by decide)];exact h0
 refine AL.Met.introH Tryz.func100 (by decide) rfl rfl rfl (fun hH=>?_)
 refine k3 ?_
 obtain ⟨R,hR⟩:∃R,R=upH (Q6 g) (j+1) l j:=⟨_,rfl⟩
 rw [←hR]
 refine D6 (X:=Nat × List Int × Nat) (fun x=>([(0,.s E97),(1,C3 x.2.2)]++gf,(741,R2 x.2.1)::ob)) (fun x=>upH (Q6 g) x.1 x.2.1 x.2.2=R∧x.2.2 < x.1∧x.2.1.length=l.length∧x.2.2 < l.length∧∀y∈x.2.1,0≤y∧y < (g.length:Int)) (fun x=>x.1) (j+1,l,j) ⟨hR.symm,by dsimp only;omega,rfl,hj,hr⟩ ?_ ?_
 ·exact J36 ⟨le1 rfl,le1 rfl,trivial⟩ hH (by repeat (first | exact A8 | refine A9 rfl ?_)) (C9 (L:=[(741,_)]) ⟨h1,trivial⟩ B8)
 rintro ⟨f,l',k⟩ ⟨hu,hkf,hll,hkl,hrg⟩
 dsimp only at hu hkf hll hkl hrg ⊢
 obtain ⟨f,rfl⟩:∃f',f=f'+1:=⟨f - 1,by omega⟩
 rw [upH] at hu
 have hdv:=up_div k (by omega)
 have hil:(k - 1) / 2 < l'.length:=by omega
 refine k3 (k2 (A2 (A3 J J (A5 (K1 J J (by omega)) J (A5 (D84 J J (by decide)) J (A6 J J (A4 ?_)))))))
 rw [hdv]
 refine k1 (k2 (k2 ?_))
 by_cases he:(k - 1) / 2=k
 ·rw [if_pos (.inl he)] at hu
  have hd:decide ((((k - 1) / 2:Nat):Int)=(k:Int))=true:=decide_eq_true (by omega)
  refine A2 (A3 J J (A3 J J (A5 (F4 J J) J (A3 J J (I6 J J J (by rw [hd];decide) J ?_)))));refine I6 J J J (by rw [hd];decide) J ?_;refine I6 J J J (by rw [hd];decide) J ?_;refine I6 J J J (by rw [hd];decide) J ?_;refine I6 J J J (by rw [hd];decide) J ?_;refine A5 (O8 J (hd) J) J (A4 ?_);refine k1 ?_;refine B0 rfl (fun ht=>?_) (fun ht=>?_)
  ·refine k6 (k7 (k9 J (k7 (k8 J ?_))))
   rw [←hu]
   exact P6 (A31 rfl) (by repeat (first | exact A8 | refine A9 rfl ?_ | refine B6 _ ?_)) (fun _ _ h=>h) ⟨rfl,rfl⟩
  ·cases ht
 ·have hd:decide ((((k - 1) / 2:Nat):Int)=(k:Int))=false:=decide_eq_false (by omega)
  refine A2 (A3 J J (A3 J J (A5 (F4 J J) J (A3 J J (G6 J J J hd (A3 J J (G6 J J J hd (A3 J J (G6 J J J hd (A3 J J (G6 J J J hd (A58 (fun a vs w=>by kernel_rfl) (D12 g l' k ((k - 1) / 2) hg hrg (by omega) hil (h0' _) J) J J J J ?_))))))))))));rintro _ _ ⟨rfl,rfl⟩;refine G6 J J J hd (A5 (U0 J) J (A5 (W9 J (hd) J) J (A4 ?_)));refine k1 ?_;refine B0 rfl (fun ht=>?_) (fun ht=>?_)
  ·have hb:Q6 g (atG l' k) (atG l' ((k - 1) / 2))=false:=by simpa using ht
   rw [if_pos (.inr hb)] at hu
   refine k6 (k7 (k9 J (k7 (k8 J ?_))))
   rw [←hu]
   exact P6 (A31 rfl) (by repeat (first | exact A8 | refine A9 rfl ?_ | refine B6 _ ?_)) (fun _ _ h=>h) ⟨rfl,rfl⟩
  ·have hb:Q6 g (atG l' k) (atG l' ((k - 1) / 2))=true:=by simpa using ht
   rw [if_neg (by rw [hb];simp [he])] at hu
   refine k5 (k1 (k2 (A2 (A3 J J (A3 J J (A3 J J (A58 (fun a vs w=>by kernel_rfl) (D13 g l' ((k - 1) / 2) k hil (by omega) (h0' _) J) J J J J ?_)))))));rintro _ _ ⟨rfl,rfl⟩;refine A4 ?_;refine k1 (A2 (A3 J J (A6 J J (A4 ?_))));refine k4 (k1 ?_);refine ⟨(f,X6 l' ((k - 1) / 2) k,(k - 1) / 2),⟨hu,by dsimp only;omega,by dsimp only;rw [N1];exact hll,by dsimp only;omega,E40 hil (by omega) hrg⟩,by dsimp only;omega,?_⟩
   exact J36 ⟨le1 rfl,le1 rfl,trivial⟩ hH (by repeat (first | exact A8 | refine A9 rfl ?_)) (C9 (L:=[(741,_)]) ⟨rfl,trivial⟩ (by repeat (first | exact B8 | refine C0 rfl ?_)))
theorem I59 {gf:Fr} {ob:Obs} (g:Graph) (l:List Int) (n:Nat) (hg:g.length≤1048576) (hl:l.length≤1048576) (hr:∀x∈l,0≤x∧x < (g.length:Int)) (hn:n≤l.length) (h0:B4 ob 740=some (B02 g)) (h1:B4 ob 741=some (R2 l)) :
  AL.Met Tryz.prog 101 [E97,sI 0,sI n] gf ob [] (fun rs ob'=>∃b,rs=[.one (.p (.v (.bool b)))]∧ob'=(741,R2 (A17 (Q6 g) n (n+1) l 0))::ob):=by
 have h0':∀o,B4 ((741,o)::ob) 740=some (B02 g):=fun o=>by rw [B9 (by decide)];exact h0
 refine AL.Met.introH Tryz.func101 (by decide) rfl rfl rfl (fun hH=>?_)
 refine k2 (A2 (A6 J J (A4 ?_)));refine k1 (k2 (A2 (A3 J J (A6 J J (A4 ?_)))));refine k1 (k2 (k3 ?_))
 obtain ⟨R,hR⟩:∃R,R=A17 (Q6 g) n (n+1) l 0:=⟨_,rfl⟩
 rw [←hR]
 refine D6 (X:=Nat × List Int × Nat) (fun x=>([(0,.s E97),(1,C3 0),(2,C3 n),(7,C3 x.2.2)]++gf,(741,R2 x.2.1)::ob)) (fun x=>A17 (Q6 g) n x.1 x.2.1 x.2.2=R∧n < x.1+x.2.2∧x.2.1.length=l.length∧x.2.2≤l.length∧∀y∈x.2.1,0≤y∧y < (g.length:Int)) (fun x=>x.1) (n+1,l,0) ⟨hR.symm,by dsimp only;omega,rfl,Nat.zero_le _,hr⟩ ?_ ?_
 ·exact J36 ⟨le1 rfl,le1 rfl,le1 rfl,le1 rfl,trivial⟩ hH (by repeat (first | exact A8 | refine A9 rfl ?_)) (C9 (L:=[(741,_)]) ⟨h1,trivial⟩ B8)
 rintro ⟨f,l',i⟩ ⟨hu,hkf,hll,hil,hrg⟩
 dsimp only at hu hkf hll hil hrg ⊢
 have hstop:n≤2*i+1→l'=R:=fun h=>by
  cases f with
  | zero=>exact hu
  | succ f=>rw [A17,if_pos h] at hu;exact hu
 refine k3 (k2 (A2 (A3 J J (A5 (B33 J J (by omega)) J (E4 J J J (A6 J J (A4 ?_)))))));refine k1 (k2 (k2 (A2 (A3 J J (A3 J J (A5 (U8 J J) J (A3 J J (C2 J J J J (fun hg=>by rw [hg];exact C8 J J) ?_))))))));refine C2 J J J J (fun hg=>by rw [hg];exact B34 J J) ?_;refine A5 (D7 J (fun h=>by first | rfl | (rw [h];rfl)) (fun h=>by first | rfl | (rw [h];rfl))) J ?_;refine A4 ?_;refine k1 ?_;refine B0 rfl (fun ht=>?_) (fun ht=>?_)
 ·have h3:=A0 (or_pick.symm.trans ht)
  rw [hstop (by omega)]
  refine k6 (k2 (A2 (A3 J J (A3 J J (A5 (R8 J J) J (A6 J J (A4 ?_)))))));refine k1 (k10 ?_)
  exact E0 (H9 rfl rfl) (by repeat (first | exact A8 | refine A9 rfl ?_ | refine B6 _ ?_)) (fun _ _ h=>h) ⟨_,rfl,rfl⟩
 have h3:=A1 (or_pick.symm.trans ht)
 have hj1:2*i+1 < n:=by omega
 obtain ⟨f,rfl⟩:∃f',f=f'+1:=⟨f - 1,by omega⟩
 rw [A17,if_neg (by omega)] at hu
 obtain ⟨c1,c2,c3⟩:=I29 (bf:=Q6 g) (l:=l') hj1
 have hlow:D82 (Q6 g) n l' i=if 2*i+2 < n∧Q6 g (atG l' (2*i+2)) (atG l' (2*i+1))=true then 2*i+2 else 2*i+1:=rfl
 obtain ⟨j,hj⟩:∃j,j=D82 (Q6 g) n l' i:=⟨_,rfl⟩
 rw [←hj] at hu c1 c2 c3 hlow
 rw [show 2*(i:Int)+1=((2*i+1:Nat):Int) by omega]
 refine k5 (k1 (k2 (A2 (A3 J J (A6 J J (A4 ?_))))));refine k1 (k2 (k2 (A2 (A3 J J (E4 J J J (A6 J J (A4 ?_)))))))
 rw [show ((2*i+1:Nat):Int)+1=((2*i+2:Nat):Int) by omega]
 refine k1 (k2 ?_)
 obtain ⟨B,hB⟩:∃B,B=(decide (2*i+2 < n)&&Q6 g (atG l' (2*i+2)) (atG l' (2*i+1))):=⟨_,rfl⟩
 have hlow2:j=if B=true then 2*i+2 else 2*i+1:=by rw [hlow,hB];simp only [J61,decide_eq_true_eq]
 refine B72 ([(0,.s E97),(1,C3 0),(2,C3 n),(7,C3 i),(9,C3 ((2*i+1:Nat):Int)),(10,C3 ((2*i+2:Nat):Int)),(33,R0 B)]++gf) ((741,R2 l')::ob) ?_ ?_
 ·by_cases h2:2*i+2 < n
  ·have hd:decide (((2*i+2:Nat):Int) < (n:Int))=true:=decide_eq_true (by omega)
   have hBe:B=Q6 g (atG l' (2*i+2)) (atG l' (2*i+1)):=by rw [hB,decide_eq_true h2,Bool.true_and]
   rw [hBe]
   refine A2 (A3 J J (A3 J J (G7 J J J (A3 J J (G6 J J J hd (A3 J J (G6 J J J hd (A3 J J (G6 J J J hd (A3 J J (G6 J J J hd (A58 (fun a vs w=>by kernel_rfl) (D12 g l' (2*i+2) (2*i+1) hg hrg (by omega) (by omega) (h0' _) J) J J J J ?_))))))))))));rintro _ _ ⟨rfl,rfl⟩;refine A5 (O8 J (hd) J) J (A4 ?_);refine k1 ?_
   exact J36 ⟨le1 rfl,le1 rfl,le1 rfl,le1 rfl,le1 rfl,le1 rfl,le1 rfl,trivial⟩ hH (by repeat (first | exact A8 | refine A9 rfl ?_)) (fun _ _ h=>h)
  ·have hd:decide (((2*i+2:Nat):Int) < (n:Int))=false:=decide_eq_false (by omega)
   have hBe:B=false:=by rw [hB,decide_eq_false h2,Bool.false_and]
   rw [hBe]
   refine A2 (A3 J J (A3 J J (G7 J J J (A3 J J (I6 J J J (by rw [hd];decide) J ?_)))));refine I6 J J J (by rw [hd];decide) J ?_;refine I6 J J J (by rw [hd];decide) J ?_;refine I6 J J J (by rw [hd];decide) J ?_;refine A5 (W9 J (hd) J) J (A4 ?_);refine k1 ?_
   exact J36 ⟨le1 rfl,le1 rfl,le1 rfl,le1 rfl,le1 rfl,le1 rfl,le1 rfl,trivial⟩ hH (by repeat (first | exact A8 | refine A9 rfl ?_)) (fun _ _ h=>h)
 skip
 refine B72 ([(0,.s E97),(1,C3 0),(2,C3 n),(7,C3 i),(9,C3 j)]++gf) ((741,R2 l')::ob) ?_ ?_
 ·refine B0 rfl (fun ht=>?_) (fun ht=>?_)
  ·rw [if_pos ht] at hlow2
   skip
   refine A2 (A3 J J (A6 J J (A4 ?_)));refine k1 ?_
   rw [hlow2]
   exact J36 ⟨le1 rfl,le1 rfl,le1 rfl,le1 rfl,le1 rfl,trivial⟩ hH (by repeat (first | exact A8 | refine A9 rfl ?_)) (fun _ _ h=>h)
  ·rw [if_neg (by rw [ht];decide)] at hlow2
   refine k5 (k1 ?_)
   rw [hlow2]
   exact J36 ⟨le1 rfl,le1 rfl,le1 rfl,le1 rfl,le1 rfl,trivial⟩ hH (by repeat (first | exact A8 | refine A9 rfl ?_)) (fun _ _ h=>h)
 refine k2 (k2 (A2 (A3 J J (A3 J J (A3 J J (A58 (fun a vs w=>by kernel_rfl) (D12 g l' j i hg hrg (by omega) (by omega) (h0' _) J) J J J J ?_))))));rintro _ _ ⟨rfl,rfl⟩;refine A5 (U0 J) J (A4 ?_);refine k1 ?_;refine B0 rfl (fun ht=>?_) (fun ht=>?_)
 ·have hb:Q6 g (atG l' j) (atG l' i)=false:=by simpa using ht
  rw [if_pos hb] at hu
  rw [←hu]
  refine k6 (k2 (A2 (A3 J J (A3 J J (A5 (R8 J J) J (A6 J J (A4 ?_)))))));refine k1 (k10 ?_)
  exact E0 (H9 rfl rfl) (by repeat (first | exact A8 | refine A9 rfl ?_ | refine B6 _ ?_)) (fun _ _ h=>h) ⟨_,rfl,rfl⟩
 ·have hb:Q6 g (atG l' j) (atG l' i)=true:=by simpa using ht
  rw [if_neg (by rw [hb];decide)] at hu
  refine k5 (k1 (k2 (A2 (A3 J J (A3 J J (A3 J J (A58 (fun a vs w=>by kernel_rfl) (D13 g l' i j (by omega) (by omega) (h0' _) J) J J J J ?_)))))));rintro _ _ ⟨rfl,rfl⟩;refine A4 ?_;refine k1 (A2 (A3 J J (A6 J J (A4 ?_))));refine k4 (k1 ?_);refine ⟨(f,X6 l' i j,j),⟨hu,by dsimp only;omega,by dsimp only;rw [N1];exact hll,by dsimp only;omega,E40 (by omega) (by omega) hrg⟩,by dsimp only;omega,?_⟩
  exact J36 ⟨le1 rfl,le1 rfl,le1 rfl,le1 rfl,trivial⟩ hH (by repeat (first | exact A8 | refine A9 rfl ?_)) (C9 (L:=[(741,_)]) ⟨rfl,trivial⟩ (by repeat (first | exact B8 | refine C0 rfl ?_)))
set_option maxHeartbeats 1000000
theorem F27 {gf:Fr} {ob:Obs} (g:Graph) (l:List Int) (c:Int) (hg:g.length≤1000) (hl:l.length≤1000) (hr:∀x∈l,0≤x∧x < (g.length:Int)) (hc:0≤c∧c < g.length) (h0:B4 ob 740=some (B02 g)) (h1:B4 ob 741=some (R2 l)) :
  AL.Met Tryz.prog 66 [E97,sIf c] gf ob [741] (fun rs ob'=>rs=[]∧ob'=(740,B02 g)::(741,R2 (C80 (Q6 g) l c))::Obs.forget 741 ob):=by
 have hr2:∀x∈l++[c],0≤x∧x < (g.length:Int):=fun x hx=>by
  rcases List.mem_append.1 hx with hx | hx
  ·exact hr x hx
  ·rw [List.mem_singleton.1 hx];exact hc
 have hla:(l++[c]).length=l.length+1:=by simp
 have hp:upH (Q6 g) (l.length+1) (l++[c]) l.length=C80 (Q6 g) l c:=rfl
 refine AL.Met.introH Tryz.func66 (by decide) rfl rfl rfl (fun hH=>?_)
 refine D9 (J37 741 (l:=[(0,.s E97),(1,.s (sIf c))]) (L:=[(740,_),(741,_)]) ⟨le1 rfl,le1 rfl,trivial⟩ hH (by repeat (first | exact A8 | refine A9 rfl ?_)) ⟨h0,h1,trivial⟩) ?_
 refine k2 (A2 (A3 J J (A3 J J (A58 (fun a vs w=>by kernel_rfl) (I58 g l c (by omega) J J) J J J J ?_))));rintro _ _ ⟨rfl,rfl⟩;refine A4 ?_;refine k1 (A2 (A3 J J (A3 J J (A58 (fun a vs w=>by kernel_rfl) (E39 g (l++[c]) J J) J J J J ?_))));rintro _ _ ⟨rfl,rfl⟩;refine A5 (K1 J J (by (rw [hla];omega))) J ?_;refine H4 ((by rw [hla,show (((l.length+1:Nat):Int)) - 1=((l.length:Nat):Int) by omega];exact hUp_met g (l++[c]) l.length (by omega) (by omega) hr2 (by omega) J J)) J J J ?_;rintro _ _ ⟨rfl,rfl⟩;refine A4 ?_
 rw [hp]
 skip
 exact P6 (A31 rfl) (by repeat (first | exact A8 | refine A9 rfl ?_ | refine H2 _ ?_ | refine B6 _ ?_)) (C9 (L:=[(740,_),(741,_)]) ⟨rfl,rfl,trivial⟩ (by repeat (first | exact B8 | refine C0 rfl ?_ | refine J3 _ ?_))) ⟨rfl,rfl⟩
theorem J17 {gf:Fr} {ob:Obs} (g:Graph) (l:List Int) (hg:g.length≤1000) (hl:l.length≤1000) (h2:0 < l.length) (hr:∀x∈l,0≤x∧x < (g.length:Int)) (h0:B4 ob 740=some (B02 g)) (h1:B4 ob 741=some (R2 l)) :
  AL.Met Tryz.prog 68 [E97] gf ob [741] (fun rs ob'=>rs=[sIf (atG (C35 (Q6 g) l) (l.length - 1))]∧ob'=(740,B02 g)::(741,R2 ((C35 (Q6 g) l).take (l.length - 1)))::Obs.forget 741 ob):=by
 have hsl:=N1 l 0 (l.length - 1)
 have hsr:=E40 (n:=(g.length:Int)) (i:=0) (j:=l.length - 1) h2 (by omega) hr
 have hdn:A17 (Q6 g) (l.length - 1) (l.length - 1+1) (X6 l 0 (l.length - 1)) 0=C35 (Q6 g) l:=by unfold C35;rw [show l.length - 1+1=l.length by omega]
 have hpl:(C35 (Q6 g) l).length=l.length:=by
  rw [←hdn]
  exact (by
   have key:∀(f i:Nat) (x:List Int),(A17 (Q6 g) (l.length - 1) f x i).length=x.length:=by
    intro f
    induction f with
    | zero=>intro i x;rfl
    | succ f ih =>
     intro i x
     rw [A17]
     split
     ·rfl
     ·split
      ·rfl
      ·rw [ih,N1]
   rw [key,N1])
 refine AL.Met.introH Tryz.func68 (by decide) rfl rfl rfl (fun hH=>?_)
 refine D9 (J37 741 (l:=[(0,.s E97)]) (L:=[(740,_),(741,_)]) ⟨le1 rfl,trivial⟩ hH (by repeat (first | exact A8 | refine A9 rfl ?_)) ⟨h0,h1,trivial⟩) ?_
 refine k2 (A2 (A6 J J (A4 ?_)));refine k1 (k2 (A2 (A3 J J (A58 (fun a vs w=>by kernel_rfl) (E39 g l J J) J J J J ?_))));rintro _ _ ⟨rfl,rfl⟩;refine A5 (K1 J J (by omega)) J (A6 J J (A4 ?_))
 rw [show ((l.length:Nat):Int) - 1=((l.length - 1:Nat):Int) by omega]
 refine k1 (k2 (A2 (A3 J J (A3 J J (A58 (fun a vs w=>by kernel_rfl) (D13 g l 0 (l.length - 1) h2 (by omega) J J) J J J J ?_)))));rintro _ _ ⟨rfl,rfl⟩;refine A4 ?_;refine k1 (k2 (A2 (A3 J J (A3 J J (H4 (I59 g (X6 l 0 (l.length - 1)) (l.length - 1) (by omega) (by omega) hsr (by omega) J J) J J J ?_)))));rintro _ _ ⟨b,rfl,rfl⟩;refine A4 ?_
 rw [hdn]
 refine k1 (k2 (A2 (A3 J J (A58 (fun a vs w=>by kernel_rfl) ((by rw [←hpl];exact J16 g (C35 (Q6 g) l) (by omega) (by omega) J J)) J J J J ?_))));rintro _ _ ⟨rfl,rfl⟩;refine A6 J J (A4 ?_)
 rw [hpl]
 refine k1 (k10 ?_)
 exact E0 (H9 rfl rfl) (by repeat (first | exact A8 | refine A9 rfl ?_ | refine H2 _ ?_ | refine B6 _ ?_)) (C9 (L:=[(740,_),(741,_)]) ⟨rfl,rfl,trivial⟩ (by repeat (first | exact B8 | refine C0 rfl ?_ | refine J3 _ ?_))) ⟨rfl,rfl⟩
theorem OInv.ub {g:Graph} {inn:List Bool} {k i:Nat} {ch hp out:List Int} (h:OInv g inn k i ch hp out) (p:Nat) (hp:p < g.length):-1≤atG ch p∧atG ch p≤g.length:=by
 cases ho:K7 inn p
 ·have:=h.off p hp ho;omega
 ·have h1:=h.cnt p hp ho
  have h2:=G10 g inn (out.take k) p
  split at h1<;>omega
theorem I60 (g:Graph) (s:Int) (h:FewT g):FnOk Tryz.prog 39 [P1 g,L1 [s]] (fun rs=>rs=[L1 (X8 g s).1,G1 (X8 g s).2]):=by
 have hg:=h.few.len
 refine FnOk.intro Tryz.func39 (by decide) J J J J ?_
 refine k2 (A2 (A6 J J (A6 J J (A4 ?_))));refine k1 (k2 (k2 (A2 (A3 J J (D8 (I05 g h) J J J ?_)))));rintro _ rfl;refine A6 J J (A4 ?_);refine k1 (k2 (A2 (A3 J J (A5 (T9 J J) J (A4 ?_)))));refine k1 ?_;refine B0 rfl (fun ht=>?_) (fun ht=>?_)
 ·have h1:N8 g≠0:=A0 ht
  refine k2 (A2 (A3 J J (A5 (I7 _ 1 F0) J (A6 J J (A4 ?_)))));refine k1 (k10 (k11 ?_))
  exact B7 (rs:=[L1 [],G1 (N8 g)]) (l9 rfl rfl rfl rfl rfl) (by unfold X8;rw [if_pos h1])
 have h1:¬N8 g≠0:=A1 ht
 have hvg:=A15 (Decidable.not_not.1 h1)
 refine k5 (k1 (k2 (k2 (A2 (A3 J J (F3 J J (A3 J J (A4 ?_))))))));refine k1 (k3 (D6 (X:=Nat) (fun i=>([(0,D5 Commit 3 J5 g),(1,D5 Int 1 F0 [s]),(23,D5 Int 1 F0 [s]),(24,C3 1),(25,C3 i)],[])) (fun i=>i≤1∧(i=1→j9 g s)) (fun i=>1 - i) 0 ⟨Nat.zero_le _,fun h=>by cases h⟩ (Sees.of ⟨le1 rfl,le1 rfl,le1 rfl,le1 rfl,le1 rfl,trivial⟩ trivial) ?_))
 rintro i ⟨hi,hs⟩
 dsimp only at hi hs ⊢
 refine k2 (A2 (G7 J J J (A4 ?_)));refine k1 (k2 ?_);refine B0 rfl (fun ht=>?_) (fun ht=>?_)
 ·have hlt:i=0:=by have h1:=A0 ht;omega
  subst hlt
  have hv:[s][((0:Nat):Int).toNat]?=some s:=rfl
  refine k5 (k1 (k2 (k3 (k2 (A2 (A5 (B3 J (.pure _ _ _ _) J (by omega) hv) J (A5 (B1 J J) J (A6 J J (A4 ?_)))))))));refine k1 (k2 (A2 (A3 J J (A3 J J (D8 (dis_ok g s) J J J ?_)))));rintro _ rfl;refine A5 (U0 J) J (A4 ?_);refine k1 ?_;refine B0 rfl (fun ht=>?_) (fun ht=>?_)
  ·have h2:¬j9 g s:=by simpa using ht
   refine k2 (A2 (A5 (I7 _ 1 F0) J (A6 J J (A4 ?_))));refine k1 (k10 (k12 (k11 (k11 (k12 (k11 ?_))))))
   exact B7 (rs:=[L1 [],G1 5]) (l9 rfl rfl rfl rfl rfl) (by unfold X8;rw [if_neg h1,if_neg h2])
  ·have h2:j9 g s:=by simpa using ht
   refine k5 (k4 (k1 (A2 (E4 J J J (A3 J J (A4 ?_))))));refine k1 ?_
   exact ⟨1,⟨Nat.le_refl _,fun _=>h2⟩,by omega,(Sees.of ⟨le1 rfl,le1 rfl,le1 rfl,le1 rfl,le1 rfl,trivial⟩ trivial)⟩
 have hi1:i=1:=by have h1:=A1 ht;omega
 have hs:=hs hi1
 have hres:X8 g s=(C82 g [s],0):=by unfold X8;rw [if_neg h1,if_pos hs]
 rw [hres]
 have hsr:∀f∈[s],0≤f∧f < g.length:=fun f hf=>by rw [List.mem_singleton.1 hf];exact hs
 refine k6 (k2 (A2 (A3 J J (A6 J J (A4 ?_)))));refine k1 (k2 (A2 (A3 J J (A3 J J (A77 (F88 g [s] h.few hvg.rel hsr (by simp)) J J J J ?_)))));rintro _ _ ⟨ch,rfl,rfl,hchl,hch⟩;refine ⟨rfl,?_⟩;refine A6 J J (A4 ?_)
 have hcl:=B07 hvg.rel [s] hsr
 obtain ⟨inn,hinn⟩:∃inn,inn=Q9 g [s]:=⟨_,rfl⟩
 have hil:inn.length=g.length:=by rw [hinn];exact G81 g _
 have hord:C82 g [s]=D25 g inn (g.length+1) []:=by rw [hinn];rfl
 rw [←hinn] at hch hcl
 rw [hord]
 have hlo:∀p,p < g.length → -1≤atG ch p∧atG ch p≤g.length:=fun p hp=>by
  rw [hch p hp]
  have:=G10 g inn [] p
  split<;>omega
 refine k1 (k2 (A2 (A3 J J (A5 (G31 (cs:=[.list Commit 3 J5 g]) J J) J (A5 (I8 J) J (D2 (l4 740 J J J) J (A6 J J (A4 ?_))))))));refine k1 (k2 (k2 (D9 (J41 741 Int 1 F0 3 (kb:=740) (o:=0) J J J) ?_)))
 refine A2 (A3 J J (A5 (C94 J J) J (A3 J J (A4 ?_))));refine k1 (k3 (D6 (X:=Nat × List Int) (fun x=>([(0,D5 Commit 3 J5 g),(10,.s (.one (.mut 753))),(11,.s (.one (.ref 740 0))),(42,.s (.one (.mut 753))),(43,C3 g.length),(44,C3 x.1)],[(740,B02 g),(741,R2 x.2),(753,E38 ch)])) (fun x=>x.1≤g.length∧HInv g ch x.2 x.1) (fun x=>g.length - x.1) (0,[]) ⟨Nat.zero_le _,HInv.nil g ch⟩ (by rw [←hchl];exact (Sees.of ⟨le1 rfl,le1 rfl,le1 rfl,le1 rfl,le1 rfl,le1 rfl,trivial⟩ ⟨rfl,rfl,rfl,trivial⟩)) ?_))
 rintro ⟨i,hp⟩ ⟨hi,hI⟩
 dsimp only at hi hI ⊢
 have hpl:=hI.le
 refine k2 (A2 (G7 J J J (A4 ?_)));refine k1 (k2 ?_);refine B0 rfl (fun ht=>?_) (fun ht=>?_)
 ·have hlt:i < g.length:=by have h1:=A0 ht;(try dsimp only at h1);omega
  have hva:=C19 (l:=ch) (p:=(i:Int)) (by omega)
  rw [J62] at hva
  have hN:=hI.step
  have hrg:∀x∈hp,0≤x∧x < (g.length:Int):=fun x hx=>by have:=hI.rng x hx;omega
  refine k5 (k1 (k2 (k3 (k2 (A2 (A3 J J (A5 (G8 J J J (by omega) (by omega)) J (A5 (M7 J J hva J) J (A6 J J (A6 J J (A4 ?_)))))))))));refine k1 (k2 (A2 (A3 J J (A5 (F4 J J) J (A4 ?_)))));refine k1 ?_;refine B0 rfl (fun ht=>?_) (fun ht=>?_)
  ·have h2:atG ch i=0:=A0 ht
   rw [if_pos h2] at hN
   skip
   refine A2 (A3 J J (A5 (A97 J (by kernel_rfl)) J (A3 J J (A5 (C17 J (by kernel_rfl)) J (H4 (F27 g hp i hg (by omega) hrg (by omega) J J) J J J ?_)))));rintro _ _ ⟨rfl,rfl⟩;refine A4 ?_;refine k4 (k1 (A2 (E4 J J J (A3 J J (A4 ?_)))));refine k1 ?_
   exact ⟨(i+1,C80 (Q6 g) hp i),⟨hlt,hN⟩,by dsimp only;omega,(Sees.of ⟨le1 rfl,le1 rfl,le1 rfl,le1 rfl,le1 rfl,le1 rfl,trivial⟩ ⟨rfl,rfl,rfl,trivial⟩)⟩
  ·have h2:¬atG ch i=0:=A1 ht
   rw [if_neg h2] at hN
   refine k5 (k4 (k1 (A2 (E4 J J J (A3 J J (A4 ?_))))));refine k1 ?_
   exact ⟨(i+1,hp),⟨hlt,hN⟩,by dsimp only;omega,(Sees.of ⟨le1 rfl,le1 rfl,le1 rfl,le1 rfl,le1 rfl,le1 rfl,trivial⟩ ⟨rfl,rfl,rfl,trivial⟩)⟩
 have hie:i=g.length:=by have h1:=A1 ht;(try dsimp only at h1);omega
 rw [hie] at hI
 have hO:=OInv.start hchl hil hch hI
 refine k6 (k2 (A2 (D2 (Y1 14 _ F0 J) J (A4 ?_))));refine k1 (k2 (k3 (D6 (X:=List Int × List Int × List Int) (fun x=>([(0,D5 Commit 3 J5 g),(10,.s (.one (.mut 753))),(11,.s (.one (.ref 740 0))),(14,.s (.one (.buf 14 Int 1 F0 x.2.2)))],[(14,.spare x.2.2.length 1 3),(740,B02 g),(741,R2 x.2.1),(753,E38 x.1)])) (fun x=>OInv g inn x.2.2.length 0 x.1 x.2.1 x.2.2∧D25 g inn (g.length+1 - x.2.2.length) x.2.2=D25 g inn (g.length+1) []) (fun x=>g.length+1 - x.2.2.length) (ch,hp,[]) ⟨hO,rfl⟩ (Sees.of ⟨le1 rfl,le1 rfl,le1 rfl,le1 rfl,trivial⟩ ⟨rfl,rfl,rfl,rfl,trivial⟩) ?_)))
 rintro ⟨ch,hp,out⟩ ⟨hO,hro⟩
 dsimp only at hO hro ⊢
 obtain ⟨hol,hpl⟩:=hO.le
 have hchl:=hO.len
 refine k2 (k2 (A2 (A3 J J (H4 (E39 g hp J J) J J J ?_))));rintro _ _ ⟨rfl,rfl⟩;refine A5 (R8 J J) J (A4 ?_);refine k1 ?_;refine B0 rfl (fun ht=>?_) (fun ht=>?_)
 rotate_left
 ·have h2:hp=[]:=by
   have h2:=A1 ht
   exact List.length_eq_zero_iff.1 (by omega)
  rw [h2] at hO
  have hb:=hO.fin
  rw [J32 (by omega)] at hro
  rw [←hro]
  refine k6 (k2 (A2 (A3 J J (A6 J J (A6 J J (A4 ?_))))));refine k1 (k10 ?_)
  exact B7 (rs:=[L1 out,G1 0]) (l9 rfl rfl rfl rfl rfl) rfl
 have hp0:0 < hp.length:=by have h2:=A0 ht;omega
 obtain ⟨b1,b2,b3⟩:=hO.pop hp0
 have hm:atG hp 0∈hp:=by rw [O1 hp0];exact J66 hp0
 have hr0:=hO.hpr _ hm
 obtain ⟨c,hc⟩:∃c:Nat,atG hp 0=(c:Int):=⟨(atG hp 0).toNat,by omega⟩
 rw [I85 (by omega) (by omega),b1,hc] at hro
 rw [hc] at b2 b3
 have hcg:c < g.length:=by omega
 obtain ⟨cm,hcm⟩:∃cm,cm=g[c]:=⟨_,rfl⟩
 have hvc:g[((c:Nat):Int).toNat]?=some cm:=by rw [hcm];simp [hcg]
 have hps:F1 g c=cm.Parents:=by rw [u7 hcg,hcm]
 have hpl2:=h.few.pars cm (by rw [hcm];exact J66 hcg)
 obtain ⟨hp1,hhp1⟩:∃hp1,hp1=(C35 (Q6 g) hp).take (hp.length - 1):=⟨_,rfl⟩
 refine k5 (k1 (k3 (k2 (A2 (A3 J J (A5 (A97 J (by kernel_rfl)) J (H4 (J17 g hp hg (by omega) hp0 hO.hpr J J) J J J ?_)))))));rintro _ _ ⟨rfl,rfl⟩;refine A5 (D37 J J) J (A6 J J (A4 ?_))
 rw [b3,←hhp1]
 rw [←hhp1] at b2
 refine k1 (k2 (A2 (A3 J J (A3 J J (A5 (D1 (c:=F0) (ys:=[(c:Int)]) (E5 J J J J H1) J J J) J (D2 (M6 J J J (.pure _ _ _ _) (by (simp only [J64,J68];omega)) J) J (A6 J J (A4 ?_))))))));refine k1 (k2 (A2 (A3 J J (A3 J J (A5 (B3 J (.pure _ _ _ _) J (by omega) hvc) J (A5 (C5 J) J (A5 (B1 J J) J (F3 J J (A3 J J (A4 ?_))))))))));refine k1 (k3 (D6 (X:=Nat × List Int × List Int) (fun x=>([(0,D5 Commit 3 J5 g),(10,.s (.one (.mut 753))),(11,.s (.one (.ref 740 0))),(14,.s (.one (.buf 14 Int 1 F0 (out++[(c:Int)])))),(72,D5 Int 1 F0 cm.Parents),(73,C3 cm.Parents.length),(74,C3 x.1)],[(14,.spare (out++[(c:Int)]).length 1 3),(740,B02 g),(741,R2 x.2.2),(753,E38 x.2.1)])) (fun x=>x.1≤cm.Parents.length∧OInv g inn out.length x.1 x.2.1 x.2.2 (out++[(c:Int)])) (fun x=>cm.Parents.length - x.1) (0,ch,hp1) ⟨Nat.zero_le _,b2⟩ (Sees.of ⟨le1 rfl,le1 rfl,le1 rfl,le1 rfl,le1 rfl,le1 rfl,le1 rfl,trivial⟩ ⟨rfl,rfl,rfl,rfl,trivial⟩) ?_))
 rintro ⟨i,ch,hp⟩ ⟨hi,hO⟩
 dsimp only at hi hO ⊢
 obtain ⟨hol2,hpl⟩:=hO.le
 have hchl:=hO.len
 have hub:=OInv.ub hO
 have hvo:(out++[(c:Int)])[out.length]?=some (c:Int):=by rw [J74 (Nat.le_refl _),K06];rfl
 rw [J63,List.length_singleton] at hol2
 refine k2 (A2 (G7 J J J (A4 ?_)));refine k1 (k2 ?_);refine B0 rfl (fun ht=>?_) (fun ht=>?_)
 rotate_left
 ·have h2:i=cm.Parents.length:=by have h1:=A1 ht;(try dsimp only at h1);omega
  rw [h2,←hps] at hO
  have hN:=hO.next (by simp) hvo
  refine k6 (k7 (k7 (k8 J (k4 (k1 ?_)))));refine ⟨(ch,hp,out++[(c:Int)]),⟨hN,?_⟩,by dsimp only;rw [J63,List.length_singleton];omega,(Sees.of ⟨le1 rfl,le1 rfl,le1 rfl,le1 rfl,trivial⟩ ⟨rfl,rfl,rfl,rfl,trivial⟩)⟩
  dsimp only
  rw [←hro,J63,List.length_singleton]
  congr 1<;>omega
 have hilt:i < cm.Parents.length:=by have h1:=A0 ht;(try dsimp only at h1);omega
 have hpb:=(K5 hvg.rel c).1 cm.Parents[i] (by rw [hps];exact J66 hilt)
 obtain ⟨p,hpe⟩:∃p:Nat,cm.Parents[i]=(p:Int):=⟨cm.Parents[i].toNat,by omega⟩
 have hvp:cm.Parents[i]?=some (p:Int):=by rw [J60 hilt,hpe]
 obtain ⟨s1,s2,s3,s4,s5⟩:=hO.step hvg.rel hcl (by simp) hvo (i:=i) (p:=p) (by rw [hps];exact hilt) (by simp only [hps];exact hpe)
 have hva:=C19 (l:=ch) (p:=(p:Int)) (by omega)
 have hva2:(U2 ch p)[((p:Nat):Int).toNat]?=some (atG ch p - 1):=by
  unfold U2
  rw [J62,List.getElem?_set_self (by omega)]
 have hdl:(U2 ch p).length=g.length:=by unfold U2;rw [J83,hchl]
 have hset:ch.set ((p:Nat):Int).toNat (atG ch ((p:Nat):Int).toNat - 1)=U2 ch p:=rfl
 refine k5 (k1 (k2 (k3 (k2 (A2 (A5 (B3 J (.pure _ _ _ _) J (by omega) hvp) J (A5 (B1 J J) J (A6 J J (A4 ?_)))))))));refine k1 (k2 (A2 (A3 J J (A3 J J (A5 (G8 J J J (by omega) (by (rw [hchl];omega))) J ?_)))));refine A5 (M7 J J hva J) J (A5 (K1 J J (by (rw [J62];omega))) J ?_);refine A5 (G8 J J J (by omega) (by (rw [hchl];omega))) J ?_;refine H7 (L2 TySz.out J J (by (rw [hchl];omega)) J J) ?_;refine A4 ?_
 rw [hset]
 refine k1 (k2 (A2 (A3 J J (A3 J J (A5 (G8 J J J (by omega) (by (rw [hdl];omega))) J ?_)))));refine A5 (M7 J J hva2 J) J (A5 (F4 J J) J (A4 ?_));refine k1 ?_;refine B0 rfl (fun ht=>?_) (fun ht=>?_)
 ·have h2:atG ch p - 1=0:=A0 ht
  rw [if_pos h2] at s5
  skip
  refine A2 (A3 J J (A5 (A97 J (by kernel_rfl)) J (A3 J J (A5 (C17 J (by kernel_rfl)) J (H4 (F27 g hp p hg (by omega) hO.hpr (by omega) J J) J J J ?_)))));rintro _ _ ⟨rfl,rfl⟩;refine A4 ?_;refine k4 (k1 (A2 (E4 J J J (A3 J J (A4 ?_)))));refine k1 ?_
  exact ⟨(i+1,U2 ch p,C80 (Q6 g) hp p),⟨hilt,s5⟩,by dsimp only;omega,(Sees.of ⟨le1 rfl,le1 rfl,le1 rfl,le1 rfl,le1 rfl,le1 rfl,le1 rfl,trivial⟩ ⟨rfl,rfl,rfl,rfl,trivial⟩)⟩
 ·have h2:¬atG ch p - 1=0:=A1 ht
  rw [if_neg h2] at s5
  refine k5 (k4 (k1 (A2 (E4 J J J (A3 J J (A4 ?_))))));refine k1 ?_
  exact ⟨(i+1,U2 ch p,hp),⟨hilt,s5⟩,by dsimp only;omega,(Sees.of ⟨le1 rfl,le1 rfl,le1 rfl,le1 rfl,le1 rfl,le1 rfl,le1 rfl,trivial⟩ ⟨rfl,rfl,rfl,rfl,trivial⟩)⟩
set_option maxHeartbeats 1000000
abbrev isS (l:List Int):S1:=.one (.p (.list Int 1 F0 l))
theorem J18 (f:Str × Str→Bool) (g:Graph) (c:Nat):(O2 g c).flatten.any f=Z8 f g c:=by
 unfold Z8
 rw [List.any_flatten]
theorem D46 (g:Graph) (s:Int) (f:FuncId) (α:Type) (ec:Nat) (cc:α→Nat→Cell) (v:α) (pr:Str × Str→Bool) (h:FewT g) (hs6:Short g)
  (hf:Valid g→∀c:Nat,c < g.length→∀x∈(O2 g c).flatten,AL.Met Tryz.prog f [G57 x,.one (.eref α ec cc v 0)] [] [] [] (fun rs ob'=>rs=[A79 (pr x)]∧ob'=[])) :
  AL.Met Tryz.prog 25 [.one (.p (.list Commit 3 J5 g)),M3 s,.one (.fncE f α ec cc v)] [] [] [] (fun rs ob'=>rs=[isS (S6 pr g s).1,M3 (S6 pr g s).2]∧ob'=[]):=by
 refine AL.Met.intro Tryz.func25 (by decide) J J J ?_
 refine k2 (A2 (A6 J J (A6 J J (A4 ?_))));refine k1 (k2 (A2 (A3 J J (A3 J J (A5 (D1 (c:=F0) (ys:=[s]) (E5 J J J J H1) J J J) J (D8 (I60 g s h) J J J ?_))))));rintro _ rfl;refine A3 J J (H5 J J J (H5 J J J (A6 J J (A6 J J (A4 ?_)))));refine k1 (k2 (k2 (A2 (A3 J J (A5 (T9 J J) J (A4 ?_))))));refine k1 ?_;refine B0 rfl (fun ht=>?_) (fun ht=>?_)
 ·have h3:(X8 g s).2≠0:=A0 ht
  refine k2 (A2 (A3 J J (A5 (I7 _ 1 F0) J (A6 J J (A4 ?_)))));refine k1 (k10 (k11 ?_))
  exact E0 (RetOk.s2 (l9 rfl rfl rfl rfl rfl)) (by repeat (first | exact A8 | refine A9 rfl ?_ | refine B6 _ ?_)) (ObIn.spec (ob':=[]) trivial) ⟨by unfold S6;rw [if_pos h3],rfl⟩
 have h3:¬(X8 g s).2≠0:=A1 ht
 obtain ⟨hv,hrg,hnd⟩:Valid g∧(∀x∈(X8 g s).1,0≤x∧x < (g.length:Int))∧(X8 g s).1.Nodup:=by
  unfold X8 at h3 ⊢
  split at h3
  ·rename_i hd;exact absurd hd h3
  ·rename_i hd
   rw [if_neg hd]
   have:=A15 (Decidable.not_not.1 hd)
   split
   ·exact ⟨this,(D67 g [s]).2,(D67 g [s]).1⟩
   ·exact ⟨this,(fun _ h=>by cases h),List.nodup_nil⟩
 have hres2:S6 pr g s=((X8 g s).1.filter fun c=>Z8 pr g c.toNat,0):=by unfold S6;rw [if_neg h3]
 rw [hres2]
 obtain ⟨O,hO⟩:∃O,O=(X8 g s).1:=⟨_,rfl⟩
 rw [←hO] at hrg hnd ⊢
 have hOl:=j5 hnd hrg
 have hg:=h.few.len
 refine k5 (k1 (k2 (A2 (D2 (Y1 10 _ F0 J) J (A4 ?_)))));refine k1 (k2 (k2 (A2 (A3 J J (F3 J J (A3 J J (A4 ?_)))))));refine k1 (k3 (D6 (X:=Nat) (fun k=>([(0,D5 Commit 3 J5 g),(2,.s (.one (.fncE f α ec cc v))),(10,.s (.one (.buf 10 Int 1 F0 ((O.take k).filter fun c=>Z8 pr g c.toNat)))),(23,D5 Int 1 F0 O),(24,C3 O.length),(25,C3 k)],[(10,.spare ((O.take k).filter fun c=>Z8 pr g c.toNat).length 1 3)])) (fun k=>k≤O.length) (fun k=>O.length - k) 0 (Nat.zero_le _) (Sees.of ⟨le1 rfl,le1 rfl,le1 rfl,le1 rfl,le1 rfl,le1 rfl,trivial⟩ ⟨rfl,trivial⟩) ?_))
 intro k hk
 dsimp only at hk ⊢
 have hfl:=List.length_filter_le (fun c:Int=>Z8 pr g c.toNat) (O.take k)
 rw [J70] at hfl
 refine k2 (A2 (G7 J J J (A4 ?_)));refine k1 (k2 ?_);refine B0 rfl (fun ht=>?_) (fun ht=>?_)
 rotate_left
 ·have hke:k=O.length:=by have h1:=A1 ht;(try dsimp only at h1);omega
  rw [hke,J67]
  refine k6 (k2 (A2 (A3 J J (A6 J J (A6 J J (A4 ?_))))));refine k1 (k10 ?_)
  exact E0 (RetOk.s2 (l9 rfl rfl rfl rfl rfl)) (by repeat (first | exact A8 | refine A9 rfl ?_ | refine B6 _ ?_)) (ObIn.spec (ob':=[]) trivial) ⟨rfl,rfl⟩
 have hklt:k < O.length:=by have h1:=A0 ht;(try dsimp only at h1);omega
 have hcr:=hrg _ (J66 hklt)
 obtain ⟨c,hc⟩:∃c:Nat,O[k]=(c:Int):=⟨O[k].toNat,by omega⟩
 have hvk:O[k]?=some (c:Int):=by rw [J60 hklt,hc]
 have hsn:(O.take (k+1)).filter (fun c=>Z8 pr g c.toNat)=((O.take k).filter fun c=>Z8 pr g c.toNat)++(if Z8 pr g c=true then [(c:Int)] else []):=by
  rw [List.take_add_one,hvk,Option.toList_some,List.filter_append]
  congr 1
  rw [K04,J62];rfl
 obtain ⟨F,hF⟩:∃F,F=(O.take k).filter fun c=>Z8 pr g c.toNat:=⟨_,rfl⟩
 rw [←hF] at hfl hsn ⊢
 have hB:=D09 h hv c
 have hfl2:=B00 hB (O2 g c).length
 unfold i7 at hfl2
 rw [J67] at hfl2
 have hfx:=hf hv c (by omega)
 have hap:=J18 pr g c
 refine k5 (k1 (k2 (k3 (k2 (A2 (A5 (B3 J (.pure _ _ _ _) J (by omega) hvk) J (A5 (B1 J J) J (A6 J J (A4 ?_)))))))));refine k1 (k2 (A2 (A3 J J (A3 J J (D8 (F23 g c h hv hs6 (by omega)) J J J ?_)))));rintro _ rfl;refine D8 (E96 (O2 g c) hB) J J J ?_;rintro _ rfl;refine A3 J J (A77 (D10 f α ec cc v pr (O2 g c).flatten (by omega) hfx) J J J J ?_);rintro _ _ ⟨rfl,rfl⟩;refine ⟨rfl,?_⟩;refine A4 ?_
 rw [hap]
 refine k1 ?_;refine B0 rfl (fun ht=>?_) (fun ht=>?_)
 ·rw [if_pos ht] at hsn
  skip
  refine A2 (A3 J J (A3 J J (A5 (D1 (c:=F0) (ys:=[(c:Int)]) (E5 J J J J H1) J J J) J (D2 (M6 J J J (.pure _ _ _ _) (by (simp only [J64,J68];omega)) J) J (A6 J J (A4 ?_))))));refine k4 (k1 (A2 (E4 J J J (A3 J J (A4 ?_)))));refine k1 ?_;refine ⟨k+1,by omega,by omega,?_⟩
  rw [hsn]
  exact (Sees.of ⟨le1 rfl,le1 rfl,le1 rfl,le1 rfl,le1 rfl,le1 rfl,trivial⟩ ⟨rfl,trivial⟩)
 ·rw [ht,if_neg (by decide),J87] at hsn
  refine k5 (k4 (k1 (A2 (E4 J J J (A3 J J (A4 ?_))))));refine k1 ?_;refine ⟨k+1,by omega,by omega,?_⟩
  rw [hsn]
  exact (Sees.of ⟨le1 rfl,le1 rfl,le1 rfl,le1 rfl,le1 rfl,le1 rfl,trivial⟩ ⟨rfl,trivial⟩)
theorem G66 (g:Graph) (s:Int) (nd:Str) (h:FewT g) (hs6:Short g) (hn:nd.length≤1073741824):FnOk Tryz.prog 21 [P1 g,G1 s,M1 nd] (fun rs=>rs=[L1 (o3 g s nd).1,G1 (o3 g s nd).2]):=by
 refine FnOk.intro Tryz.func21 (by decide) J J J J ?_
 refine k2 (A2 (A5 (n_boxE J J) J (A5 (I7 _ 1 F0) J (A6 J J (A4 ?_)))));refine k1 (k2 (k3 (k2 (A2 (A5 (B1 J J) J (A5 (A90 J J) J (A6 J J (A4 ?_))))))));refine k1 ?_;refine B0 rfl (fun ht=>?_) (fun ht=>?_)
 ·have h1:nd=[]:=A0 ht
  refine k2 (A2 (A5 (I7 _ 1 F0) J (A6 J J (A4 ?_))));refine k1 (k10 (k12 (k11 ?_)))
  exact B7 (rs:=[L1 [],G1 2]) (l9 rfl rfl rfl rfl rfl) (by unfold o3;rw [if_pos h1])
 have h1:¬nd=[]:=A1 ht
 refine k2 (A2 (A5 (B1 J J) J (A5 (N2 J) J (A5 (R8 J J) J (A6 J J (A4 ?_))))));refine k1 ?_;refine B0 rfl (fun ht=>?_) (fun ht=>?_)
 ·have h2:(256:Int) < nd.length:=A0 ht
  refine k2 (A2 (A5 (I7 _ 1 F0) J (A6 J J (A4 ?_))));refine k1 (k10 (k12 (k11 ?_)))
  exact B7 (rs:=[L1 [],G1 1]) (l9 rfl rfl rfl rfl rfl) (by unfold o3;rw [if_neg h1,if_pos (by omega)])
 have h2:¬(256:Int) < nd.length:=A1 ht
 have hres:o3 g s nd=S6 (differs nd) g s:=by unfold o3;rw [if_neg h1,if_neg (by omega)]
 rw [hres]
 refine k5 (k2 (A2 (A3 J J (A3 J J (A5 (D38 J) J ?_)))))
 refine A77 (D46 g s 33 Unit 1 (cE nd) () (differs nd) h hs6 (fun hv c hc x hx=>by
  obtain ⟨l,hl,hxl⟩:=List.mem_flatten.1 hx
  have hb:=(D09 h hv c).strs l hl x hxl
  exact J08 nd x hn hb.1 hb.2)) rfl rfl rfl rfl ?_
 rintro _ _ ⟨rfl,rfl⟩;refine ⟨rfl,?_⟩;refine H5 J J J (H5 J J J (A6 J J (A6 J J (A4 ?_))))
 refine k1 (k10 ?_)
 exact B7 (rs:=[L1 (S6 (differs nd) g s).1,G1 (S6 (differs nd) g s).2]) (l9 rfl rfl rfl rfl rfl) rfl
theorem H52 (g:Graph) (c:Int) (nd:Str) (h:FewT g) (hs6:Short g) (hn:nd.length≤1073741824):FnOk Tryz.prog 22 [P1 g,G1 c,M1 nd] (fun rs=>rs=[L1 (o4 g c nd).1,G1 (o4 g c nd).2]):=by
 refine FnOk.intro Tryz.func22 (by decide) J J J J ?_
 refine k2 (A2 (A6 J J (A6 J J (A4 ?_))));refine k1 (k2 (k2 (A2 (A3 J J (A3 J J (D8 (I53 g c h hs6) J J J ?_))))));rintro _ ⟨_,rfl⟩;refine A3 J J (H5 J J J (H5 J J J (A6 J J (A6 J J (A4 ?_)))));refine k1 (k2 (A2 (A3 J J (A5 (T9 J J) J (A4 ?_)))));refine k1 ?_;refine B0 rfl (fun ht=>?_) (fun ht=>?_)
 ·have h1:b8 g c≠0:=A0 ht
  refine k2 (A2 (A3 J J (A5 (I7 _ 1 F0) J (A6 J J (A4 ?_)))));refine k1 (k10 (k11 ?_))
  exact B7 (rs:=[L1 [],G1 (b8 g c)]) (l9 rfl rfl rfl rfl rfl) (by unfold o4;rw [if_pos h1])
 have h1:¬b8 g c≠0:=A1 ht
 obtain ⟨hv,hc0,hc1⟩:=D41 (Decidable.not_not.1 h1)
 obtain ⟨k,rfl⟩:∃k:Nat,c=(k:Int):=⟨c.toNat,by omega⟩
 have hres:o4 g (k:Int) nd=((O2 g k).map (X9 nd),0):=by unfold o4;rw [if_neg h1,J62]
 rw [hres]
 have hB:=D09 h hv k
 refine k5 (k1 (k2 (A2 (D2 (Y1 10 _ F0 J) J (A4 ?_)))));refine k1 (k2 (k2 (A2 (A3 J J (A3 J J (D8 (F23 g k h hv hs6 (by omega)) J J J ?_))))));rintro _ rfl;refine F3 J J (A3 J J (A4 ?_))
 obtain ⟨B,hBd⟩:∃B,B=O2 g k:=⟨_,rfl⟩
 rw [←hBd] at hB ⊢
 have hBl:=hB.len
 refine k1 (k3 (D6 (X:=Nat) (fun p=>([(2,V5 nd),(10,.s (.one (.buf 10 Int 1 F0 ((B.take p).map (X9 nd))))),(27,D5 (List (Str × Str)) 1 A69 B),(28,C3 B.length),(29,C3 p)],[(10,.spare ((B.take p).map (X9 nd)).length 1 3)])) (fun p=>p≤B.length) (fun p=>B.length - p) 0 (Nat.zero_le _) (Sees.of ⟨le1 rfl,le1 rfl,le1 rfl,le1 rfl,le1 rfl,trivial⟩ ⟨rfl,trivial⟩) ?_))
 intro p hp
 dsimp only at hp ⊢
 have hml:((B.take p).map (X9 nd)).length≤33:=by rw [J85,J70];omega
 refine k2 (A2 (G7 J J J (A4 ?_)));refine k1 (k2 ?_);refine B0 rfl (fun ht=>?_) (fun ht=>?_)
 rotate_left
 ·have hpe:p=B.length:=by have h1:=A1 ht;(try dsimp only at h1);omega
  rw [hpe,J67]
  refine k6 (k2 (A2 (A3 J J (A6 J J (A6 J J (A4 ?_))))));refine k1 (k10 ?_)
  exact B7 (rs:=[L1 (B.map (X9 nd)),G1 0]) (l9 rfl rfl rfl rfl rfl) rfl
 have hplt:p < B.length:=by have h1:=A0 ht;(try dsimp only at h1);omega
 have hs:=G56 (nd:=nd) hplt
 obtain ⟨l,hl⟩:∃l,l=B[p]:=⟨_,rfl⟩
 have hvl:B[p]?=some l:=by rw [hl];simp [hplt]
 have hlm:l∈B:=by rw [hl];exact J66 hplt
 have hll:=hB.lens l hlm
 rw [←hl] at hs
 obtain ⟨S,hS⟩:∃S,S=(B.take p).map (X9 nd):=⟨_,rfl⟩
 rw [←hS] at hs hml ⊢
 refine k5 (k1 (k2 (k3 (k2 (A2 (A5 (B3 J (.pure _ _ _ _) J (by omega) hvl) J (A5 (B1 J J) J (A6 J J (A4 ?_)))))))));refine k1 (k2 (A2 (A6 J J (A4 ?_))));refine k1 (k2 (k2 (A2 (A3 J J (F3 J J (A3 J J (A4 ?_)))))));refine k1 (k3 (D6 (X:=Nat) (fun i=>([(2,V5 nd),(10,.s (.one (.buf 10 Int 1 F0 S))),(13,C3 (X9 nd (l.take i))),(27,D5 (List (Str × Str)) 1 A69 B),(28,C3 B.length),(29,C3 p),(33,D5 (Str × Str) 2 A19 l),(34,C3 l.length),(35,C3 i)],[(10,.spare S.length 1 3)])) (fun i=>i≤l.length) (fun i=>l.length - i) 0 (Nat.zero_le _) (Sees.of ⟨le1 rfl,le1 rfl,le1 rfl,le1 rfl,le1 rfl,le1 rfl,le1 rfl,le1 rfl,le1 rfl,trivial⟩ ⟨rfl,trivial⟩) ?_))
 intro i hi
 dsimp only at hi ⊢
 refine k2 (A2 (G7 J J J (A4 ?_)));refine k1 (k2 ?_);refine B0 rfl (fun ht=>?_) (fun ht=>?_)
 ·have hilt:i < l.length:=by have h1:=A0 ht;(try dsimp only at h1);omega
  have hs2:=J07 (nd:=nd) hilt
  obtain ⟨x,hx⟩:∃x,x=l[i]:=⟨_,rfl⟩
  have hvx:l[i]?=some x:=by rw [hx];simp [hilt]
  have hxs:=hB.strs l hlm x (by rw [hx];exact J66 hilt)
  rw [←hx] at hs2
  have hsb:=E29 (nd:=nd) (l:=l.take i) fun y hy=>hB.strs l hlm y (List.mem_of_mem_take hy)
  rw [J70] at hsb
  have hc1:=C57 nd x.1 hxs.1
  have hc2:=C57 nd x.2 hxs.2
  obtain ⟨s0,hs0⟩:∃s0,s0=X9 nd (l.take i):=⟨_,rfl⟩
  obtain ⟨u1,hu1⟩:∃u1,u1=W6 nd x.1:=⟨_,rfl⟩
  obtain ⟨u2,hu2⟩:∃u2,u2=W6 nd x.2:=⟨_,rfl⟩
  have hmin:min i l.length≤400:=by omega
  have hsb1:-6710887200≤s0∧s0≤6710887200:=by rw [hs0];omega
  rw [←hu1] at hc1
  rw [←hu2] at hc2
  rw [←hs0,←hu1,←hu2] at hs2
  rw [←hs0]
  clear hsb
  have hr1:=B74 nd x.1 hn hxs.1
  have hr2:=B74 nd x.2 hn hxs.2
  rw [←hu1] at hr1
  rw [←hu2] at hr2
  refine k5 (k1 (k2 (k3 (k2 (A2 (A5 (B3 J (.pure _ _ _ _) J (by omega) hvx) J (A5 (E3 J J) J (D2 (I9 15 J) J (H7 (C4 TySz.out J J J J J J) (A4 ?_))))))))));refine k1 (F5 (by kernel_rfl) (by kernel_rfl) (F9 J J (F9 J J (B5 (L4 J J (by first | omega | decide) (by omega)) J J (B5 (C6 J J J) J J (B5 (U4 (hr2) J J) J J (F9 J J (B5 (L4 J J (by first | omega | decide) (by omega)) J J (B5 (C6 J J J) J J (B5 (U4 (hr1) J J) J J (B5 (K1 J J (by omega)) J J (B5 (q9 J J (by omega)) J J (B5 (J8 J J) J J (R1 ?_))))))))))))));refine k4 (k1 (A2 (E4 J J J (A3 J J (A4 ?_)))));refine k1 ?_;refine ⟨i+1,by omega,by omega,?_⟩
  rw [hs2]
  exact (Sees.of ⟨le1 rfl,le1 rfl,le1 rfl,le1 rfl,le1 rfl,le1 rfl,le1 rfl,le1 rfl,le1 rfl,trivial⟩ ⟨rfl,trivial⟩)
 ·have hie:i=l.length:=by have h1:=A1 ht;(try dsimp only at h1);omega
  rw [hie,J67]
  refine k6 (k7 (k7 (k8 J (k1 (A2 (A3 J J (A3 J J (A5 (D1 (c:=F0) (ys:=[X9 nd l]) (E5 J J J J H1) J J J) J (D2 (M6 J J J (.pure _ _ _ _) (by (simp only [J64,J68];omega)) J) J (A6 J J (A4 ?_)))))))))));refine k4 (k1 (A2 (E4 J J J (A3 J J (A4 ?_)))));refine k1 ?_;refine ⟨p+1,by omega,by omega,?_⟩
  rw [hs]
  exact (Sees.of ⟨le1 rfl,le1 rfl,le1 rfl,le1 rfl,le1 rfl,trivial⟩ ⟨rfl,trivial⟩)
end Go.Proofs.YtkahafmcmiiolaaGreatDoor
namespace Go.Proofs.YtkahafmcmiiolaaGreatDoor
open Go Go.AL
set_option maxRecDepth 100000
end Go.Proofs.YtkahafmcmiiolaaGreatDoor
namespace Go.Proofs.YtkahafmcmiiolaaGreatDoor
open Go Go.AL
set_option maxRecDepth 100000
set_option maxHeartbeats 1000000
end Go.Proofs.YtkahafmcmiiolaaGreatDoor
namespace Go.Proofs.YtkahafmcmiiolaaGreatDoor
open Go Go.AL
set_option maxRecDepth 100000
end Go.Proofs.YtkahafmcmiiolaaGreatDoor
namespace Go.Proofs.YtkahafmcmiiolaaGreatDoor
open Go Go.AL
set_option maxRecDepth 100000
end Go.Proofs.YtkahafmcmiiolaaGreatDoor
namespace Go.Proofs.YtkahafmcmiiolaaGreatDoor
open Go Go.AL
set_option maxRecDepth 100000
end Go.Proofs.YtkahafmcmiiolaaGreatDoor
namespace Go.Proofs.YtkahafmcmiiolaaGreatDoor
open Go Go.AL
set_option maxRecDepth 100000
end Go.Proofs.YtkahafmcmiiolaaGreatDoor
namespace Go.Proofs.YtkahafmcmiiolaaGreatDoor
open Go Go.AL
set_option maxRecDepth 100000
theorem check12_good {p:Patch} (h1:¬C72 p≠0):D20 p.Hunks=true:=by
 by_cases hg:D20 p.Hunks=true
 ·exact hg
 ·exfalso;apply h1;unfold C72;split
  ·decide
  ·rw [if_pos (by simpa using hg)];decide
end Go.Proofs.YtkahafmcmiiolaaGreatDoor
namespace Go.Proofs.YtkahafmcmiiolaaGreatDoor
open Go Go.AL
set_option maxRecDepth 100000
end Go.Proofs.YtkahafmcmiiolaaGreatDoor
namespace Go.Proofs.YtkahafmcmiiolaaGreatDoor
open Go Go.AL
set_option maxRecDepth 100000
end Go.Proofs.YtkahafmcmiiolaaGreatDoor
namespace Go.Proofs.YtkahafmcmiiolaaGreatDoor
open Go Go.AL
set_option maxRecDepth 100000
end Go.Proofs.YtkahafmcmiiolaaGreatDoor
namespace Go.Proofs.YtkahafmcmiiolaaGreatDoor
open Go Go.AL
set_option maxRecDepth 100000
theorem E41 (n:Int):FnOk Tryz.prog 106 [G1 n] (fun rs=>rs=[J2 (decide (L7 n))]):=by
 refine FnOk.intro Tryz.func106 (by decide) J J J J ?_
 refine k2 (A2 (A6 J J (A4 ?_)));refine k1 (k2 (A2 (A3 J J (A5 (U8 J J) J (A3 J J (C2 J J J J (fun hg=>by rw [hg];exact C8 J J) ?_))))));refine C2 J J J J (fun hg=>by rw [hg];exact C41 J J) ?_;refine A5 (D7 J (fun h=>by first | rfl | (rw [h];rfl)) (fun h=>by first | rfl | (rw [h];rfl))) J ?_;refine A6 J J (A4 ?_);refine k1 (k10 (B7 (I4 J J J) ?_))
 simp only [T7]
 rfl
theorem I61 {gf:Fr} {ob:Obs} (p:List Span):AL.Met Tryz.prog 140 [.one (.p (.list Span 2 spanC p))] gf ob [] (fun rs ob'=>rs=[.one (.full Span 2 spanC p)]∧ob'=ob):=by
 refine AL.Met.intro Tryz.func140 (by decide) J J J ?_
 refine k2 (A2 (A6 J J (A4 ?_)));refine k1 (k2 (A2 (A3 J J (A3 J J (F3 J J (A3 J J (F3 J J (A5 (H17 J (.pure _ _ _ _) J J (by omega) (by omega) (by first | rfl | omega)) J ?_))))))));refine A6 J J (A4 ?_)
 rw [show p.take (p.length:Int).toNat=p by simp]
 refine k1 (k10 ?_)
 exact E0 (H9 rfl rfl) (by repeat (first | exact A8 | refine A9 rfl ?_ | refine B6 _ ?_)) (fun _ _ h=>h) ⟨rfl,rfl⟩
def A39 (i j:Int):List Span→List Change
 | []=>[]
 | x::r=>(if x.From > i∨x.To > j then [⟨i,x.From - i,j,x.To - j⟩] else [])++A39 (x.From+1) (x.To+1) r
theorem D47 (m n:Int):∀(p:List Span) (i j:Int),A39 i j (p++[⟨m,n⟩])=V7 i j p m n
 | [],i,j=>by simp [A39,V7]
 | x::r,i,j=>by
  rw [J82,A39,V7,D47 m n r]
theorem E98 (p:List Span) (m n:Int) (hp:p.length≤536870912) (hm:-1099511627776≤m∧m≤1099511627776) (hn:-1099511627776≤n∧n≤1099511627776) (hb:∀s∈p,-1099511627776≤s.From∧s.From≤1099511627776 ∧ -1099511627776≤s.To∧s.To≤1099511627776) :
  FnOk Tryz.prog 107 [pSpans p,G1 m,G1 n] (fun rs=>rs=[pChanges (C31 p m n)]):=by
 refine FnOk.intro Tryz.func107 (by decide) J J J J ?_
 refine k2 (A2 (A6 J J (A4 ?_)));refine k1 (k2 (A2 (D2 (Y1 7 _ changeC J) J (A4 ?_))));refine k1 (k2 (A2 (A6 J J (A6 J J (A4 ?_)))));refine k1 (k2 (k2 (A2 (A3 J J (H4 (I61 p) J J J ?_)))));rintro _ _ ⟨rfl,rfl⟩;refine A3 J J (A3 J J (A5 (I8 J) J (A5 (D1 (c:=spanC) (ys:=[⟨m,n⟩]) (E5 J J J J H1) J J J) J (D2 (E89 18 J J (.pure _ _ _ _) (by simp;omega) (by simp) J) J (A5 (r5 J (.buf _ _ _ _ _)) J (A3 J J (A4 ?_)))))))
 obtain ⟨q,hq⟩:∃q,q=p++[(⟨m,n⟩:Span)]:=⟨_,rfl⟩
 have hql:q.length=p.length+1:=by rw [hq];simp
 have hqb:∀s∈q,-1099511627776≤s.From∧s.From≤1099511627776 ∧ -1099511627776≤s.To∧s.To≤1099511627776:=by
  intro s hs
  rw [hq] at hs
  rcases List.mem_append.1 hs with h | h
  ·exact hb s h
  ·simp at h;subst h;exact ⟨hm.1,hm.2,hn.1,hn.2⟩
 have hres:C31 p m n=A39 0 0 q:=by rw [hq,D47];rfl
 rw [←hq]
 refine k1 (k3 (D6 (X:=Nat × Int × Int × List Change) (fun x=>([(7,.s (.one (.buf 7 Change 4 changeC x.2.2.2))),(8,C3 x.2.1),(9,C3 x.2.2.1),(18,.s (.one (.buf 18 Span 2 spanC q))),(19,C3 q.length),(20,C3 x.1)],[(7,.spare x.2.2.2.length 4 91)])) (fun x=>x.1≤q.length∧x.2.2.2++A39 x.2.1 x.2.2.1 (q.drop x.1)=C31 p m n∧(-1099511627777≤x.2.1∧x.2.1≤1099511627777)∧(-1099511627777≤x.2.2.1∧x.2.2.1≤1099511627777)∧x.2.2.2.length≤x.1) (fun x=>q.length - x.1) (0,0,0,[]) ⟨Nat.zero_le _,hres.symm,by decide,by decide,Nat.le_refl _⟩ (Sees.of ⟨le1 rfl,le1 rfl,le1 rfl,le1 rfl,le1 rfl,le1 rfl,trivial⟩ ⟨rfl,trivial⟩) ?_))
 rintro ⟨k,i,j,out⟩ ⟨hk,he,hi,hj,hol⟩
 dsimp only at hk he hi hj hol ⊢
 refine k2 (A2 (G7 J J J (A4 ?_)));refine k1 (k2 ?_);refine B0 rfl (fun ht=>?_) (fun ht=>?_)
 ·have hlt:k < q.length:=by have:=A0 ht;omega
  have hv:q[k]?=some q[k]:=by simp [hlt]
  have hbk:=hqb _ (J66 hlt)
  obtain ⟨c,hc⟩:∃c,c=q[k]:=⟨_,rfl⟩
  rw [J71 hlt,A39] at he
  rw [←hc] at hv he hbk
  refine k5 (k1 (k2 (k3 (k2 (A2 (A5 (B3 J (.buf _ _ _ _ _) J (by omega) hv) J (A5 (E3 J J) J (D2 (I9 11 J) J (H7 (C4 TySz.out J J J J J J) (A4 ?_))))))))));refine Q0 ?_
  obtain ⟨out',hout'⟩:∃out',out'=out++(if c.From > i∨c.To > j then [⟨i,c.From - i,j,c.To - j⟩] else []):=⟨_,rfl⟩
  have hol':out'.length≤k+1:=by rw [hout',J63];split<;>simp<;>omega
  rw [←J73,←hout'] at he
  refine E03 [(7,.s (.one (.buf 7 Change 4 changeC out'))),(8,C3 i),(9,C3 j),(11,.s (.one (.ref 11 0))),(18,.s (.one (.buf 18 Span 2 spanC q))),(19,C3 q.length),(20,C3 k)] [(7,.spare out'.length 4 91),(11,.box [.p (.v (.int .i64 c.From)),.p (.v (.int .i64 c.To))])] ?_ ?_
  ·refine k2 (A2 (A5 (A7 J) J (G3 J J J J (A3 J J (A5 (R8 J J) J (A3 J J (C2 J J J J (fun hg=>by rw [hg];exact A7 J) ?_)))))));refine C2 J J J J (fun hg=>by rw [hg];exact C6 J J J) ?_;refine C2 J J J J (fun hg=>by rw [hg];exact C8 J J) ?_;refine C2 J J J J (fun hg=>by rw [hg];exact R8 J J) ?_;refine A5 (D7 J (fun h=>by first | rfl | (rw [h];rfl)) (fun h=>by first | rfl | (rw [h];rfl))) J ?_;refine A4 ?_;refine k1 ?_;refine B0 rfl (fun ht=>?_) (fun ht=>?_)
   ·simp only [or_pick] at ht
    have h1:=A0 ht
    rw [if_pos h1] at hout'
    skip
    refine A2 (A3 J J (A3 J J (A5 (A7 J) J (G3 J J J J (A3 J J (A5 (K1 J J (by omega)) J (A3 J J (A5 (A7 J) J (G3 J J J J (A3 J J (A5 (K1 J J (by omega)) J (A5 (I8 J) J (A5 (D1 (c:=changeC) (ys:=[⟨i,c.From - i,j,c.To - j⟩]) (E5 J J J J H1) J J J) J (D2 (M6 J J J (.pure _ _ _ _) (by (simp only [J64,J68];omega)) J) J (A6 J J (A4 ?_))))))))))))))));refine k1 ?_
    rw [hout']
    exact Sees.of ⟨le1 rfl,le1 rfl,le1 rfl,le1 rfl,le1 rfl,le1 rfl,le1 rfl,trivial⟩ ⟨rfl,rfl,trivial⟩
   ·simp only [or_pick] at ht
    have h1:=A1 ht
    rw [if_neg h1,J87] at hout'
    refine k5 (k1 ?_)
    rw [hout']
    exact Sees.of ⟨le1 rfl,le1 rfl,le1 rfl,le1 rfl,le1 rfl,le1 rfl,le1 rfl,trivial⟩ ⟨rfl,rfl,trivial⟩
  ·skip
   refine F5 (by kernel_rfl) (by kernel_rfl) (B5 (A7 J) J J (B5 (C6 J J J) J J (B5 (q9 J J (by omega)) J J (B5 (A7 J) J J (B5 (C6 J J J) J J (B5 (q9 J J (by omega)) J J (B5 (J8 J J) J J (B5 (J8 J J) J J (R1 ?_)))))))));refine k4 (k1 (A2 (E4 J J J (A3 J J (A4 ?_)))));refine k1 ?_
   exact ⟨(k+1,c.From+1,c.To+1,out'),⟨by dsimp only;omega,he,⟨by dsimp only;omega,by dsimp only;omega⟩,⟨by dsimp only;omega,by dsimp only;omega⟩,by dsimp only;omega⟩,by dsimp only;omega,Sees.of ⟨le1 rfl,le1 rfl,le1 rfl,le1 rfl,le1 rfl,le1 rfl,trivial⟩ ⟨rfl,trivial⟩⟩
 ·have hk':k=q.length:=by have:=A1 ht;omega
  rw [hk',J78 (Nat.le_refl _),A39,J87] at he
  refine k6 (k2 (A2 (A3 J J (A6 J J (A4 ?_)))));refine k1 (k10 ?_)
  exact B7 (I4 rfl rfl rfl) (by rw [←he])
theorem G67 {m n:Int}:∀{p:List Span} {i j:Int},Asc m n i j p→∀k (h:k < p.length),(k=0→i≤p[k].From∧j≤p[k].To)∧(∀h0:0 < k,p[k - 1].From < p[k].From∧p[k - 1].To < p[k].To)∧p[k].From < m∧p[k].To < n
 | [],_,_,_,k,h=>by simp at h
 | x::r,i,j,ha,k,h=>by
  obtain ⟨h1,h2,h3⟩:=ha
  cases k with
  | zero=>have:=h3.le;exact ⟨fun _=>⟨h1,h2⟩,fun h0=>absurd h0 (by omega),by show x.From < m;omega,by show x.To < n;omega⟩
  | succ k =>
   obtain ⟨g1,g2,g3,g4⟩:=G67 h3 k (by simpa using h)
   refine ⟨fun h0=>absurd h0 (by omega),fun _=>?_,by simpa using g3,by simpa using g4⟩
   cases k with
   | zero =>
    obtain ⟨q1,q2⟩:=g1 rfl
    have hr:0 < r.length:=by simpa using h
    show x.From < r[0].From∧x.To < r[0].To
    omega
   | succ k=>simpa using g2 (by omega)
theorem E99 (p:List Span) (m n:Int) (hm:L7 m) (hn:L7 n) (ha:Asc m n 0 0 p) (hp:p.length≤536870912) :
  FnOk Tryz.prog 75 [pSpans p,G1 m,G1 n] (fun rs=>rs=[pChanges (C31 p m n),G1 0]):=by
 obtain ⟨hm1,hm2⟩:=hm
 obtain ⟨hn1,hn2⟩:=hn
 have hst:=G67 ha
 have hb:∀s∈p,0≤s.From∧s.From≤4096∧0≤s.To∧s.To≤4096:=by
  have key:∀(p:List Span) (i j:Int),Asc m n i j p→0≤i→0≤j→∀s∈p,0≤s.From∧s.From≤4096∧0≤s.To∧s.To≤4096:=by
   intro p
   induction p with
   | nil=>intro _ _ _ _ _ s hs;simp at hs
   | cons x r ih =>
    rintro i j ⟨h1,h2,h3⟩ h4 h5 s hs
    have:=h3.le
    rcases List.mem_cons.1 hs with rfl | hs
    ·omega
    ·exact ih _ _ h3 (by omega) (by omega) s hs
  exact key p 0 0 ha (by omega) (by omega)
 refine FnOk.intro Tryz.func75 (by decide) J J J J ?_
 refine k2 (A2 (A6 J J (A6 J J (A4 ?_))));refine k1 (k2 (k2 (A2 (A3 J J (D8 (E41 m) J J J ?_)))));rintro _ rfl;refine A5 (U0 J) J (A3 J J (C2 J J J J (fun hg=>by rw [hg];exact C8 J J) ?_));refine C2 J J J J (fun hg=>by have hq:=hg;(try simp at hq);rw [hg];exact U4 (E41 n) J J) ?_;refine C2 J J J J (fun hg=>by rw [hg];exact U0 J) ?_;refine A5 (D7 J (fun h=>by first | rfl | (rw [h];rfl)) (fun h=>by first | rfl | (rw [h];rfl))) J ?_;refine A4 ?_;refine k1 ?_;refine B0 rfl (fun ht=>?_) (fun ht=>?_)
 ·exfalso
  simp only [←decide_not,or_pick] at ht
  have h:¬L7 m∨¬L7 n:=A0 ht
  rcases h with h | h
  ·exact h ⟨hm1,hm2⟩
  ·exact h ⟨hn1,hn2⟩
 refine A29 [(0,D5 Span 2 spanC p),(1,C3 m),(2,C3 n)] [] (Sees.of ⟨le1 rfl,le1 rfl,le1 rfl,trivial⟩ trivial) ?_
 refine k5 (k1 (k2 (A2 (A5 (I8 J) J (D2 (I9 8 J) J (H7 (C4 TySz.out J J J J J J) (A4 ?_)))))));refine k1 (k2 (k2 (A2 (A3 J J (F3 J J (A3 J J (A4 ?_)))))));refine k1 (k3 ?_)
 obtain ⟨lastOf,hlast⟩:∃lastOf:Nat→Span,lastOf=fun k=>if k=0 then ⟨-1,-1⟩ else p.getD (k - 1) ⟨0,0⟩:=⟨_,rfl⟩
 refine D6 (X:=Nat) (fun k=>([(0,D5 Span 2 spanC p),(1,C3 m),(2,C3 n),(8,.s (.one (.ref 8 0))),(20,D5 Span 2 spanC p),(21,C3 p.length),(22,C3 k)],[(8,.box [.p (.v (.int .i64 (lastOf k).From)),.p (.v (.int .i64 (lastOf k).To))])])) (fun k=>k≤p.length) (fun k=>p.length - k) 0 (Nat.zero_le _) ?_ ?_
 ·rw [show lastOf 0=⟨-1,-1⟩ by rw [hlast];rfl]
  exact Sees.of ⟨le1 rfl,le1 rfl,le1 rfl,le1 rfl,le1 rfl,le1 rfl,le1 rfl,trivial⟩ ⟨rfl,trivial⟩
 intro k hk
 dsimp only at hk ⊢
 refine k2 (A2 (G7 J J J (A4 ?_)));refine k1 (k2 ?_);refine B0 rfl (fun ht=>?_) (fun ht=>?_)
 ·have hlt:k < p.length:=by have:=A0 ht;omega
  have hv:p[k]?=some p[k]:=by simp [hlt]
  obtain ⟨g1,g2,g3,g4⟩:=hst k hlt
  have hnext:lastOf (k+1)=p[k]:=by rw [hlast];simp [hlt]
  have hless:(lastOf k).From < p[k].From∧(lastOf k).To < p[k].To:=by
   rw [hlast]
   by_cases h0:k=0
   ·have:=g1 h0
    simp only [h0,if_true] at this ⊢
    omega
   ·have:=g2 (by omega)
    simp only [h0,if_false]
    have e:p.getD (k - 1) ⟨0,0⟩=p[k - 1]:=by simp [show k - 1 < p.length by omega]
    rw [e];exact this
  obtain ⟨c,hc⟩:∃c,c=p[k]:=⟨_,rfl⟩
  rw [←hc] at hv g3 g4 hnext hless
  obtain ⟨la,hla⟩:∃la,la=lastOf k:=⟨_,rfl⟩
  rw [←hla] at hless ⊢
  refine k5 (k1 (k2 (k3 (k2 (A2 (A5 (B3 J (.pure _ _ _ _) J (by omega) hv) J (A5 (E3 J J) J (D2 (I9 10 J) J (H7 (C4 TySz.out J J J J J J) (A4 ?_))))))))));refine k1 (k2 (k2 (A2 (A5 (A7 J) J (G3 J J J J (A5 (A7 J) J (G3 J J J J (A5 (C41 J J) J (A3 J J (C2 J J J J (fun hg=>by rw [hg];exact A7 J) ?_))))))))));refine C2 J J J J (fun hg=>by rw [hg];exact C6 J J J) ?_;refine C2 J J J J (fun hg=>by rw [hg];exact C8 J J) ?_;refine C2 J J J J (fun hg=>by rw [hg];exact U8 J J) ?_;refine A5 (D7 J (fun h=>by first | rfl | (rw [h];rfl)) (fun h=>by first | rfl | (rw [h];rfl))) J ?_;refine A3 J J (C2 J J J J (fun hg=>by rw [hg];exact A7 J) ?_);refine C2 J J J J (fun hg=>by rw [hg];exact C6 J J J) ?_;refine C2 J J J J (fun hg=>by rw [hg];exact A7 J) ?_;refine C2 J J J J (fun hg=>by rw [hg];exact C6 J J J) ?_;refine C2 J J J J (fun hg=>by rw [hg];exact C41 J J) ?_;refine A5 (D7 J (fun h=>by first | rfl | (rw [h];rfl)) (fun h=>by first | rfl | (rw [h];rfl))) J ?_;refine A3 J J (C2 J J J J (fun hg=>by rw [hg];exact A7 J) ?_);refine C2 J J J J (fun hg=>by rw [hg];exact C6 J J J) ?_;refine C2 J J J J (fun hg=>by rw [hg];exact C8 J J) ?_;refine C2 J J J J (fun hg=>by rw [hg];exact U8 J J) ?_;refine A5 (D7 J (fun h=>by first | rfl | (rw [h];rfl)) (fun h=>by first | rfl | (rw [h];rfl))) J ?_;refine A4 ?_;refine k1 ?_;refine B0 rfl (fun ht=>?_) (fun ht=>?_)
  ·exfalso
   simp only [or_pick] at ht
   have:=A0 ht
   omega
  ·refine k5 (k1 (A2 (A5 (U1 J J J) J (H7 (C4 TySz.out J J J J J J) (A4 ?_)))));refine k4 (k1 (A2 (E4 J J J (A3 J J (A4 ?_)))));refine k1 ?_;refine ⟨k+1,by omega,by omega,?_⟩
   rw [hnext]
   exact Sees.of ⟨le1 rfl,le1 rfl,le1 rfl,le1 rfl,le1 rfl,le1 rfl,le1 rfl,trivial⟩ ⟨rfl,trivial⟩
 ·refine k6 (k2 (A2 (A3 J J (A3 J J (A3 J J (D8 (E98 p m n hp (by omega) (by omega) (fun s hs=>by have:=hb s hs;omega)) J J J ?_))))));rintro _ rfl;refine A6 J J (A6 J J (A4 ?_));refine k1 (k10 ?_)
  exact B7 (l9 rfl rfl rfl rfl rfl) rfl
theorem C60 {l:List Int} {i:Nat} (h:i < l.length):l[i]?=some (l.getD i 0):=by simp [h]
theorem G68 (a b:List Int):FnOk Tryz.prog 74 [L1 a,L1 b] (fun rs=>rs=[J2 (decide ((a.length:Int)≤4096∧(b.length:Int)≤4096))]):=by
 refine FnOk.intro Tryz.func74 (by decide) J J J J ?_
 refine k2 (A2 (A6 J J (A4 ?_)));refine k1 (k2 (A2 (A3 J J (F3 J J (A5 (C41 J J) J (A3 J J (C2 J J J J (fun hg=>by rw [hg];exact C8 J J) ?_)))))));refine C2 J J J J (fun hg=>by rw [hg];exact r5 J (.pure _ _ _ _)) ?_;refine C2 J J J J (fun hg=>by rw [hg];exact C41 J J) ?_;refine A5 (D7 J (fun h=>by first | rfl | (rw [h];rfl)) (fun h=>by first | rfl | (rw [h];rfl))) J ?_;refine A6 J J (A4 ?_);refine k1 (k10 ?_)
 exact B7 (I4 rfl rfl rfl) (by simp only [T7])
theorem F00 (a b:List Int) (ha:a.length≤1073741824):FnOk Tryz.prog 108 [L1 a,L1 b] (fun rs=>rs=[G1 (U3 a b)]):=by
 refine FnOk.intro Tryz.func108 (by decide) J J J J ?_
 refine k2 (A2 (A6 J J (A4 ?_)));refine k1 (k2 (A2 (A6 J J (A4 ?_))));refine k1 (k2 (k3 (D6 (X:=Nat) (fun k=>([(0,D5 Int 1 F0 a),(1,D5 Int 1 F0 b),(5,C3 k)],[])) (fun k=>k≤a.length∧k≤b.length∧U3 a b=k+U3 (a.drop k) (b.drop k)) (fun k=>a.length - k) 0 ⟨Nat.zero_le _,Nat.zero_le _,by simp⟩ (Sees.of ⟨le1 rfl,le1 rfl,le1 rfl,trivial⟩ trivial) ?_)))
 rintro k ⟨hk,hk2,he⟩
 dsimp only at hk hk2 he ⊢
 refine k2 (k2 (F5 (by kernel_rfl) (by kernel_rfl) (F9 J J (F9 J J (B5 (r5 J (.pure _ _ _ _)) J J (B5 (B34 J J) J J (F9 J J (F7 J J (fun hg=>by rw [hg];exact C8 J J) J J ?_))))))));refine F7 J J (fun hg=>by rw [hg];exact C8 J J) J J ?_;refine F7 J J (fun hg=>by rw [hg];exact r5 J (.pure _ _ _ _)) J J ?_;refine F7 J J (fun hg=>by rw [hg];exact B34 J J) J J ?_;refine B5 (D7 J (fun h=>by first | rfl | (rw [h];rfl)) (fun h=>by first | rfl | (rw [h];rfl))) J J ?_;refine F9 J J (F7 J J (fun hg=>by rw [hg];exact C8 J J) J J ?_);refine F7 J J (fun hg=>by rw [hg];exact C8 J J) J J ?_;refine F7 J J (fun hg=>by have hq:=hg;(try simp at hq);rw [hg];exact B3 J (.pure _ _ _ _) J (by omega) (C60 (by omega))) J J ?_;refine F7 J J (fun hg=>by rw [hg];exact B1 J J) J J ?_;refine F7 J J (fun hg=>by rw [hg];exact C8 J J) J J ?_;refine F7 J J (fun hg=>by rw [hg];exact C8 J J) J J ?_;refine F7 J J (fun hg=>by have hq:=hg;(try simp at hq);rw [hg];exact B3 J (.pure _ _ _ _) J (by omega) (C60 (by omega))) J J ?_;refine F7 J J (fun hg=>by rw [hg];exact B1 J J) J J ?_;refine F7 J J (fun hg=>by rw [hg];exact F4 J J) J J ?_;refine B5 (D7 J (fun h=>by first | rfl | (rw [h];rfl)) (fun h=>by first | rfl | (rw [h];rfl))) J J ?_;refine R1 ?_;refine k1 ?_;refine B0 rfl (fun ht=>?_) (fun ht=>?_)
 ·simp only [T7] at ht
  obtain ⟨⟨h1,h2⟩,h3⟩:=A0 ht
  have h1:k < a.length:=by omega
  have h2:k < b.length:=by omega
  rw [E67 a b k h1 h2,if_pos (by simpa [h1,h2] using h3)] at he
  refine k5 (k1 (k3 (A2 (A3 J J (E4 J J J (A6 J J (A4 ?_)))))));refine k4 (k1 ?_)
  exact ⟨k+1,⟨by omega,by omega,by omega⟩,by omega,Sees.of ⟨le1 rfl,le1 rfl,le1 rfl,trivial⟩ trivial⟩
 ·simp only [T7] at ht
  have h:=A1 ht
  have h0:U3 (a.drop k) (b.drop k)=0:=by
   by_cases hc:k < a.length∧k < b.length
   ·obtain ⟨h1,h2⟩:=hc
    rw [E67 a b k h1 h2,if_neg]
    intro h3
    exact h ⟨⟨by omega,by omega⟩,by simpa [h1,h2] using h3⟩
   ·exact I81 a b k hc
  rw [h0] at he
  refine k6 (k2 (A2 (A3 J J (A6 J J (A4 ?_)))));refine k1 (k10 ?_)
  exact B7 (I4 rfl rfl rfl) (by rw [he];rfl)
theorem F01 (a b:List Int) (ha:a.length≤4096) (hb:b.length≤4096):FnOk Tryz.prog 109 [L1 a,L1 b] (fun rs=>rs=[pU16s (flat a b (fun _ _=>true))]):=by
 obtain ⟨W,hW⟩:∃W,W=b.length+1:=⟨_,rfl⟩
 have hmul:∀i:Nat,i≤a.length+1→0≤(i:Int)*(W:Int)∧(i:Int)*(W:Int)≤16789506:=by
  intro i hi
  have h1:i*W≤4098*4097:=Nat.mul_le_mul (by omega) (by omega)
  have h2:((i*W:Nat):Int)=(i:Int)*W:=by push_cast;rfl
  omega
 have hcast:∀i:Nat,(i:Int)*(W:Int)=((i*W:Nat):Int):=fun i=>by push_cast;rfl
 have hlen:∀done,(flat a b done).length=(a.length+1)*W:=fun done=>by rw [D63,hW]
 have hdl:∀i j,dist (a.drop i) (b.drop j)≤8192:=fun i j=>by
  have:=G00 (a.drop i) (b.drop j)
  simp only [J76] at this
  omega
 have hin:∀i j:Nat,i≤a.length→j≤b.length→i*W+j < (a.length+1)*W:=fun i j hi hj=>by rw [hW];exact (D92 hi hj).1
 refine FnOk.intro Tryz.func109 (by decide) J J J J ?_
 refine k2 (A2 (A6 J J (A4 ?_)));refine k1 (k2 (A2 (A3 J J (F3 J J (E4 J J J (A6 J J (A4 ?_)))))));refine Q0 ?_
 refine A29 [(0,D5 Int 1 F0 a),(1,D5 Int 1 F0 b),(5,C3 W)] [] (Sees.of ⟨⟨_,rfl,.same _⟩,⟨_,rfl,.same _⟩,⟨_,rfl,.eq (by rw [hW];simp)⟩,trivial⟩ trivial) ?_
 have hm1:=hmul (a.length+1) (Nat.le_refl _)
 have e1:((a.length:Int)+1)=((a.length+1:Nat):Int):=by omega
 refine k2 (A2 (A3 J J (F3 J J (E4 J J J (A3 J J (A5 (B33 J J (by (rw [e1];omega))) J ?_))))));refine D2 (A30 20 Int C34 0 J J (by (rw [e1];omega)) (by (rw [e1];omega)) (fun _=>by first | exact ⟨⟨rfl,rfl⟩,trivial⟩ | exact ⟨I5 _ _ _,trivial⟩ | exact ⟨I5 _ _ _,⟨rfl,rfl⟩,I5 _ _ _,trivial⟩) J) J ?_;refine A6 J J (A4 ?_);refine Q0 ?_
 refine A29 [(0,D5 Int 1 F0 a),(1,D5 Int 1 F0 b),(5,C3 W),(6,.s (.one (.mut 20)))] [(20,.arr Int 1 C34 (flat a b (fun _ _=>false)))] ?_ ?_
 ·refine Sees.of ⟨⟨_,rfl,.same _⟩,⟨_,rfl,.same _⟩,⟨_,rfl,.same _⟩,⟨_,rfl,.same _⟩,trivial⟩ ⟨?_,trivial⟩
  rw [←I80,e1,hcast,J62,hW];rfl
 refine k2 (k2 (A2 (A3 J J (F3 J J (A3 J J (A4 ?_))))));refine k1 (k3 ?_);refine D6 (X:=Nat) (fun j=>([(0,D5 Int 1 F0 a),(1,D5 Int 1 F0 b),(5,C3 W),(6,.s (.one (.mut 20))),(22,C3 b.length),(23,C3 j)],[(20,.arr Int 1 C34 (flat a b (fun r q=>decide (r=a.length∧q < j))))])) (fun j=>j≤b.length) (fun j=>b.length - j) 0 (Nat.zero_le _) ?_ ?_
 ·rw [show flat a b (fun r q=>decide (r=a.length∧q < 0))=flat a b (fun _ _=>false) from B16 fun r q _ _=>.inl (by simp)]
  exact Sees.of ⟨le1 rfl,le1 rfl,le1 rfl,le1 rfl,le1 rfl,le1 rfl,trivial⟩ ⟨rfl,trivial⟩
 intro j hj
 dsimp only at hj ⊢
 refine k2 (A2 (G7 J J J (A4 ?_)));refine k1 (k2 ?_);refine B0 rfl (fun ht=>?_) (fun ht=>?_)
 ·have hlt:j < b.length:=by have:=A0 ht;omega
  have hmm:=hmul a.length (by omega)
  have hix:=hin a.length j (Nat.le_refl _) (by omega)
  have hc1:=hcast a.length
  have hL:=hlen (fun r q=>decide (r=a.length∧q < j))
  have hst:(flat a b (fun r q=>decide (r=a.length∧q < j))).set (((a.length:Int)*(W:Int)+(j:Int)).toNat) (IntKind.u16.wrap ((b.length:Int) - j))=flat a b (fun r q=>decide (r=a.length∧q < j+1)):=by
   rw [show ((a.length:Int)*(W:Int)+(j:Int)).toNat=a.length*(b.length+1)+j by rw [hc1,hW];omega,H79 _ (by omega)]
   refine G91 (Nat.le_refl _) (by omega) ?_ (by simp) (fun r q hr hq hne=>?_)
   ·rw [J78 (Nat.le_refl a.length),dist,J76];omega
   ·rw [decide_eq_decide];omega
  refine k5 (k1 (k2 (k3 (k2 (A2 (A3 J J (A6 J J (A4 ?_))))))));refine k1 (A2 (A3 J J (A3 J J (F3 J J (A3 J J (A5 (B33 J J (by omega)) J (A3 J J (E4 J J J (A3 J J (F3 J J (A3 J J (A5 (K1 J J (by omega)) J (A5 (V3 J) J (A5 (G8 J J J (by omega) (by (rw [hL];omega))) J ?_))))))))))))));refine H7 (L2 TySz.out J J (by (rw [hL];omega)) J J) ?_;refine A4 ?_;refine k4 (k1 (A2 (E4 J J J (A3 J J (A4 ?_)))));refine k1 ?_;refine ⟨j+1,by omega,by omega,?_⟩
  rw [←hst]
  exact Sees.of ⟨le1 rfl,le1 rfl,le1 rfl,le1 rfl,le1 rfl,le1 rfl,trivial⟩ ⟨rfl,trivial⟩
 ·have hj':j=b.length:=by have:=A1 ht;omega
  subst hj'
  rw [show flat a b (fun r q=>decide (r=a.length∧q < b.length))=flat a b (fun r _=>decide (a.length≤r)) from B16 fun r q hr hq=>by
   by_cases h:r=a.length∧q=b.length
   ·right;rw [h.1,h.2,J78 (Nat.le_refl _),J78 (Nat.le_refl _)];exact C68 []
   ·left;rw [decide_eq_decide];omega]
  refine k6 (k2 (k2 (A2 (A3 J J (F3 J J (A5 (K1 J J (by omega)) J (A6 J J (A4 ?_))))))));refine k1 (k3 (D6 (X:=Nat) (fun i=>([(0,D5 Int 1 F0 a),(1,D5 Int 1 F0 b),(5,C3 W),(6,.s (.one (.mut 20))),(8,C3 ((i:Int) - 1))],[(20,.arr Int 1 C34 (flat a b (fun r _=>decide (i≤r))))])) (fun i=>i≤a.length) (fun i=>i) a.length (Nat.le_refl _) (Sees.of ⟨le1 rfl,le1 rfl,le1 rfl,le1 rfl,le1 rfl,trivial⟩ ⟨rfl,trivial⟩) ?_))
  intro i hi
  dsimp only at hi ⊢
  refine k2 (k2 (A2 (A3 J J (A5 (U8 J J) J (A4 ?_)))));refine k1 ?_;refine B0 rfl (fun ht=>?_) (fun ht=>?_)
  ·obtain ⟨i,rfl⟩:∃r,i=r+1:=⟨i - 1,by have:=A0 ht;omega⟩
   refine A29 [(0,D5 Int 1 F0 a),(1,D5 Int 1 F0 b),(5,C3 W),(6,.s (.one (.mut 20))),(8,C3 i)] [(20,.arr Int 1 C34 (flat a b (fun r _=>decide (i+1≤r))))] (Sees.of ⟨le1 rfl,le1 rfl,le1 rfl,le1 rfl,leE J (by first | (simp;done) | (simp;omega)),trivial⟩ ⟨rfl,trivial⟩) ?_
   obtain ⟨P,hP⟩:∃P,P=i*W:=⟨_,rfl⟩
   obtain ⟨N,hN⟩:∃N,N=(a.length+1)*W:=⟨_,rfl⟩
   have c0:(i:Int)*(W:Int)=(P:Int):=by rw [hP];exact hcast i
   have c1:((i:Int)+1)*(W:Int)=(P:Int)+W:=by rw [Int.add_mul,Int.one_mul,c0]
   have c2:((i:Int)+2)*(W:Int)=(P:Int)+W+W:=by rw [Int.add_mul,c0];omega
   have hPN:P+W+W≤N:=by
    have h1:(i+2)*W≤(a.length+1)*W:=J72 _ (by omega)
    have h2:(i+2)*W=i*W+W+W:=by rw [J79];omega
    omega
   have hN2:N≤16789506:=by have:=hmul (a.length+1) (Nat.le_refl _);have:=hcast (a.length+1);omega
   have hL:∀done,(flat a b done).length=N:=fun done=>by rw [hlen,hN]
   refine k5 (k1 (k2 (k3 (k2 (F5 (by kernel_rfl) (by kernel_rfl) (F9 J J (F9 J J (F9 J J (B5 (B33 J J (by (rw [c0];omega))) J J ?_)))))))));refine F9 J J (B5 (q9 J J (by omega)) J J (F9 J J (B5 (B33 J J (by (rw [c1];omega))) J J ?_)));refine B5 (B39 J J J J (by (first | (rw [c0];omega) | (rw [c0,c1];omega) | (rw [c1,hL];omega))) (by (first | (rw [c0];omega) | (rw [c0,c1];omega) | (rw [c1,hL];omega))) (by (first | (rw [c0];omega) | (rw [c0,c1];omega) | (rw [c1,hL];omega)))) J J ?_;refine F9 J J (F9 J J (B5 (q9 J J (by omega)) J J (F9 J J (B5 (B33 J J (by (rw [c1];omega))) J J ?_))));refine F9 J J (B5 (q9 J J (by omega)) J J (F9 J J (B5 (B33 J J (by (rw [c2];omega))) J J ?_)));refine B5 (B39 J J J J (by (first | (rw [c1];omega) | (rw [c1,c2];omega) | (rw [c2,hL];omega))) (by (first | (rw [c1];omega) | (rw [c1,c2];omega) | (rw [c2,hL];omega))) (by (first | (rw [c1];omega) | (rw [c1,c2];omega) | (rw [c2,hL];omega)))) J J ?_;refine B5 (J8 J J) J J (B5 (J8 J J) J J (R1 ?_));refine Q0 ?_
   have hdone:∀j,j≤b.length→(flat a b (fun r q=>decide (i+1≤r∨(r=i∧j≤q))))[P+j]?=some (dist (a.drop i) (b.drop j):Int):=fun j hj=>by
    rw [hP,hW,E66 (by omega) hj,if_pos (by simp)]
   have hbelow:∀j j',j≤b.length→(flat a b (fun r q=>decide (i+1≤r∨(r=i∧j'≤q))))[P+W+j]?=some (dist (a.drop (i+1)) (b.drop j):Int):=fun j j' hj=>by
    rw [show P+W+j=(i+1)*(b.length+1)+j by rw [hP,hW,J79];omega,E66 (by omega) hj,if_pos (by simp)]
   refine A29 [(0,D5 Int 1 F0 a),(1,D5 Int 1 F0 b),(5,C3 W),(6,.s (.one (.mut 20))),(8,C3 i),(9,.s (.one (.msl 20 1 P W))),(10,.s (.one (.msl 20 1 (P+W) W)))] [(20,.arr Int 1 C34 (flat a b (fun r _=>decide (i+1≤r))))] ?_ ?_
   ·refine Sees.of ⟨⟨_,rfl,.same _⟩,⟨_,rfl,.same _⟩,⟨_,rfl,.same _⟩,⟨_,rfl,.same _⟩,⟨_,rfl,.same _⟩,⟨_,rfl,.eq ?_⟩,⟨_,rfl,.eq ?_⟩,trivial⟩ ⟨rfl,trivial⟩
    ·rw [c0,c1];congr 3<;>omega
    ·rw [c1,c2];congr 3<;>omega
   have hset:∀(done done':Nat→Nat→Bool) (j:Nat) (v:Int),j≤b.length→v=(dist (a.drop i) (b.drop j):Int)→done' i j=true→(∀r q,r≤a.length→q≤b.length→¬(r=i∧q=j)→done' r q=done r q)→(flat a b done).set (P+j) v=flat a b done':=by
    intro done done' j v hj hv h1 h2
    rw [hP,hW];exact G91 (by omega) hj hv h1 h2
   have hs0:(flat a b (fun r _=>decide (i+1≤r))).set (P+((b.length:Nat):Int).toNat) (IntKind.u16.wrap ((a.length:Int) - i))=flat a b (fun r q=>decide (i+1≤r∨(r=i∧b.length≤q))):=by
    rw [J62,H79 _ (by omega)]
    refine hset _ _ _ _ (Nat.le_refl _) ?_ (by simp) (fun r q hr hq hne=>?_)
    ·rw [J78 (Nat.le_refl b.length),C68,J76];omega
    ·rw [decide_eq_decide];omega
   refine k2 (A2 (A3 J J (A3 J J (F3 J J (A3 J J (F3 J J (A3 J J (A5 (K1 J J (by omega)) J (A5 (V3 J) J (A5 (R6 J J (by omega) (by omega)) J (H7 (L2 TySz.out J J (by (rw [hL];omega)) J J) ?_)))))))))));refine A4 ?_
   rw [hs0]
   refine k1 (k2 (A2 (A3 J J (F3 J J (A5 (K1 J J (by omega)) J (A6 J J (A4 ?_)))))));refine k1 (k3 (D6 (X:=Nat) (fun j=>([(0,D5 Int 1 F0 a),(1,D5 Int 1 F0 b),(5,C3 W),(6,.s (.one (.mut 20))),(8,C3 i),(9,.s (.one (.msl 20 1 P W))),(10,.s (.one (.msl 20 1 (P+W) W))),(11,C3 ((j:Int) - 1))],[(20,.arr Int 1 C34 (flat a b (fun r q=>decide (i+1≤r∨(r=i∧j≤q)))))])) (fun j=>j≤b.length) (fun j=>j) b.length (Nat.le_refl _) (Sees.of ⟨le1 rfl,le1 rfl,le1 rfl,le1 rfl,le1 rfl,le1 rfl,le1 rfl,le1 rfl,trivial⟩ ⟨rfl,trivial⟩) ?_))
   intro j hj
   dsimp only at hj ⊢
   refine k2 (k2 (A2 (A3 J J (A5 (U8 J J) J (A4 ?_)))));refine k1 ?_;refine B0 rfl (fun ht=>?_) (fun ht=>?_)
   ·obtain ⟨j,rfl⟩:∃r,j=r+1:=⟨j - 1,by have:=A0 ht;omega⟩
    have hva:a[i]?=some a[i]:=by simp [show i < a.length by omega]
    have hvb:b[j]?=some b[j]:=by simp [show j < b.length by omega]
    have hdd:=I77 a b i j (by omega) (by omega)
    have hd1:=hdl i j
    have hd2:=hdl (i+1) j
    have hd3:=hdl i (j+1)
    have hd4:=hdl (i+1) (j+1)
    obtain ⟨u,hu⟩:∃u,u=a[i]:=⟨_,rfl⟩
    obtain ⟨v,hv⟩:∃v,v=b[j]:=⟨_,rfl⟩
    rw [←hu] at hva hdd
    rw [←hv] at hvb hdd
    have hst:(flat a b (fun r q=>decide (i+1≤r∨(r=i∧j+1≤q)))).set (P+j) (dist (a.drop i) (b.drop j):Int)=flat a b (fun r q=>decide (i+1≤r∨(r=i∧j≤q))):=hset _ _ _ _ (by omega) rfl (by simp) (fun r q hr hq hne=>by rw [decide_eq_decide];omega)
    refine A29 [(0,D5 Int 1 F0 a),(1,D5 Int 1 F0 b),(5,C3 W),(6,.s (.one (.mut 20))),(8,C3 i),(9,.s (.one (.msl 20 1 P W))),(10,.s (.one (.msl 20 1 (P+W) W))),(11,C3 j)] [(20,.arr Int 1 C34 (flat a b (fun r q=>decide (i+1≤r∨(r=i∧j+1≤q)))))] (Sees.of ⟨le1 rfl,le1 rfl,le1 rfl,le1 rfl,le1 rfl,le1 rfl,le1 rfl,leE J (by first | (simp;done) | (simp;omega)),trivial⟩ ⟨rfl,trivial⟩) ?_
    refine c_skip ?_
    refine Q0 ?_
    refine E03 [(0,D5 Int 1 F0 a),(1,D5 Int 1 F0 b),(5,C3 W),(6,.s (.one (.mut 20))),(8,C3 i),(9,.s (.one (.msl 20 1 P W))),(10,.s (.one (.msl 20 1 (P+W) W))),(11,C3 j)] [(20,.arr Int 1 C34 (flat a b (fun r q=>decide (i+1≤r∨(r=i∧j≤q)))))] ?_ ?_
    ·refine k3 (k2 (F5 (by kernel_rfl) (by kernel_rfl) (F9 J J (F9 J J (B5 (B3 J (.pure _ _ _ _) J (by omega) hva) J J (B5 (B1 J J) J J (F9 J J (F9 J J (B5 (B3 J (.pure _ _ _ _) J (by omega) hvb) J J (B5 (B1 J J) J J (B5 (F4 J J) J J (R1 ?_))))))))))));refine k1 ?_;refine B0 rfl (fun ht=>?_) (fun ht=>?_)
     ·rw [if_pos (A0 ht)] at hdd
      rw [hdd] at hst
      have hg:=hbelow (j+1) (j+1) (by omega)
      have hgi:(flat a b (fun r q=>decide (i+1≤r∨(r=i∧j+1≤q))))[P+W+((j:Int)+1).toNat]?=some (dist (a.drop (i+1)) (b.drop (j+1)):Int):=by rw [show ((j:Int)+1).toNat=j+1 by omega];exact hg
      skip
      refine A2 (A3 J J (A3 J J (A3 J J (A3 J J (E4 J J J (A5 (R6 J J (by omega) (by omega)) J (A5 (M7 J J hgi J) J (A5 (R6 J J (by omega) (by omega)) J (H7 (L2 TySz.out J J (by (rw [hL];omega)) J J) ?_)))))))));refine A4 ?_;refine k4 (k1 ?_)
      rw [show P+((j:Nat):Int).toNat=P+j by omega,hst]
      exact Sees.of ⟨le1 rfl,le1 rfl,le1 rfl,le1 rfl,le1 rfl,le1 rfl,le1 rfl,le1 rfl,trivial⟩ ⟨rfl,trivial⟩
     ·rw [if_neg (A1 ht)] at hdd
      have hg1:=hbelow j (j+1) (by omega)
      have hg2:=hdone (j+1) (by omega)
      have hgi1:(flat a b (fun r q=>decide (i+1≤r∨(r=i∧j+1≤q))))[P+W+((j:Nat):Int).toNat]?=some (dist (a.drop (i+1)) (b.drop j):Int):=by rw [J62];exact hg1
      have hgi2:(flat a b (fun r q=>decide (i+1≤r∨(r=i∧j+1≤q))))[P+((j:Int)+1).toNat]?=some (dist (a.drop i) (b.drop (j+1)):Int):=by rw [show ((j:Int)+1).toNat=j+1 by omega];exact hg2
      have hval:IntKind.u16.wrap ((if (dist (a.drop i) (b.drop (j+1)):Int) < (dist (a.drop (i+1)) (b.drop j):Int) then (dist (a.drop i) (b.drop (j+1)):Int) else (dist (a.drop (i+1)) (b.drop j):Int))+1)=(dist (a.drop i) (b.drop j):Int):=by
       rw [H79 _ (by split<;>omega),hdd];split<;>omega
      skip
      refine F5 (by kernel_rfl) (by kernel_rfl) (F9 J J (F9 J J (F9 J J (F9 J J (B5 (R6 J J (by omega) (by omega)) J J (B5 (M7 J J hgi1 J) J J (F9 J J (F9 J J (B5 (q9 J J (by omega)) J J (B5 (R6 J J (by omega) (by omega)) J J (B5 (M7 J J hgi2 J) J J (B5 (F09 J J) J J (B5 (H91 J J) J J (B5 (R6 J J (by omega) (by omega)) J J (d_eff (L2 TySz.out J J (by (rw [hL];omega)) J J) J ?_)))))))))))))));refine R1 ?_;refine k4 (k1 ?_)
      rw [hval,show P+((j:Nat):Int).toNat=P+j by omega,hst]
      exact Sees.of ⟨le1 rfl,le1 rfl,le1 rfl,le1 rfl,le1 rfl,le1 rfl,le1 rfl,le1 rfl,trivial⟩ ⟨rfl,trivial⟩
    ·skip
     refine A2 (A3 J J (A5 (K1 J J (by omega)) J (A6 J J (A4 ?_))));refine k1 ?_
     exact ⟨j,by omega,by omega,Sees.of ⟨le1 rfl,le1 rfl,le1 rfl,le1 rfl,le1 rfl,le1 rfl,le1 rfl,le1 rfl,trivial⟩ ⟨rfl,trivial⟩⟩
   ·obtain rfl:j=0:=by have:=A1 ht;omega
    rw [show flat a b (fun r q=>decide (i+1≤r∨(r=i∧0≤q)))=flat a b (fun r _=>decide (i≤r)) from B16 fun r q _ _=>.inl (by rw [decide_eq_decide];omega)]
    refine k6 (k7 (k7 (k8 J (k4 (k1 (A2 (A3 J J (A5 (K1 J J (by omega)) J (A6 J J (A4 ?_))))))))));refine k1 ?_
    exact ⟨i,by omega,by omega,Sees.of ⟨le1 rfl,le1 rfl,le1 rfl,le1 rfl,le1 rfl,trivial⟩ ⟨rfl,trivial⟩⟩
  ·obtain rfl:i=0:=by have:=A1 ht;omega
   rw [show flat a b (fun r _=>decide (0≤r))=flat a b (fun _ _=>true) from B16 fun r q _ _=>.inl (by simp)]
   refine D9 (Sees.freeze (k:=20) J) ?_
   refine k6 (k2 (A2 (A3 J J (A6 J J (A4 ?_)))));refine k1 (k10 ?_)
   exact B7 (I4 rfl rfl rfl) rfl
theorem i64_id {n:Int} (h:-9223372036854775808≤n∧n≤9223372036854775807):IntKind.i64.wrap n=n:=IntWalk.i64_in _ h
theorem I11 {gf:Fr} {ob:Obs} (a b:List Int) (i j:Nat) (ha:a.length≤4096) (hb:b.length≤4096) (hi:i≤a.length) (hj:j≤b.length) (h8:B4 ob 8=some (.box [.p (.list Int 1 C34 (flat a b (fun _ _=>true)))])) (h3:B4 ob 3=some (.box [.p (.list Int 1 F0 b)])) :
  AL.Met Tryz.prog 110 [.one (.p (.v (.int .i64 i))),.one (.p (.v (.int .i64 j))),.one (.ref 8 0),.one (.ref 3 0)] gf ob [] (fun rs ob'=>rs=[.one (.p (.v (.int .i64 (dist (a.drop i) (b.drop j):Int))))]∧ob'=ob):=by
 have hg:=E66 (a:=a) (b:=b) (done:=fun _ _=>true) hi hj
 rw [if_pos rfl] at hg
 have hin:=(D92 (a:=a) (b:=b) hi hj).1
 have hL:=D63 a b (fun _ _=>true)
 have e1:(i:Int)*((b.length:Int)+1)=((i*(b.length+1):Nat):Int):=by push_cast;rfl
 have hbd:i*(b.length+1)≤4096*4097:=Nat.mul_le_mul (by omega) (by omega)
 have hbd2:(a.length+1)*(b.length+1)≤4097*4097:=Nat.mul_le_mul (by omega) (by omega)
 have hgi:(flat a b (fun _ _=>true))[((i:Int)*((b.length:Int)+1)+j).toNat]?=some (dist (a.drop i) (b.drop j):Int):=by
  rw [e1,show (((i*(b.length+1):Nat):Int)+j).toNat=i*(b.length+1)+j by omega];exact hg
 have hd:=G00 (a.drop i) (b.drop j)
 simp only [J76] at hd
 refine AL.Met.intro Tryz.func110 (by decide) J J J ?_
 refine k2 (A2 (A6 J J (A4 ?_)));refine k1 (k2 (A2 (A5 (C6 J h8 J) J (A3 J J (A5 (C6 J h3 J) J (F3 J J (E4 J J J (A5 (B33 J J (by (rw [e1];omega))) J ?_))))))));refine A3 J J (A5 (q9 J J (by (rw [e1];omega))) J ?_);refine A5 (B3 J (.pure _ _ _ _) J (by omega) hgi) J (A5 (B1 J J) J (A5 (V3 J) J (A6 J J (A4 ?_))))
 rw [i64_id (by omega)]
 refine k1 (k10 ?_)
 exact E0 (H9 rfl rfl) (by repeat (first | exact A8 | refine A9 rfl ?_ | refine B6 _ ?_)) (fun _ _ h=>h) ⟨rfl,rfl⟩
theorem J19 (a b:List Int) (ha:a.length≤4096) (hb:b.length≤4096):FnOk Tryz.prog 76 [L1 a,L1 b] (fun rs=>rs=[pSpans (K4 0 0 a b)]):=by
 obtain ⟨n,hn⟩:∃n,n=U3 a b:=⟨_,rfl⟩
 have hnl:=G92 a b
 rw [←hn] at hnl
 have hbeg:=E68 a b 0 0
 rw [←hn] at hbeg
 refine FnOk.intro Tryz.func76 (by decide) J J J J ?_
 refine k2 (A2 (D2 (l4 3 J J J) J (A6 J J (A4 ?_))));refine k1 (k2 (A2 (D2 (Y1 5 _ spanC J) J (A4 ?_))));refine k1 (k2 (A2 (A3 J J (G3 J J J J (D8 (F00 a b (by omega)) J J J ?_)))));rintro _ rfl;refine A6 J J (A4 ?_)
 rw [←hn]
 refine k1 (k2 (k2 (A2 (A3 J J (A3 J J (A4 ?_))))));refine k1 (k3 (D6 (X:=Nat) (fun k=>([(0,D5 Int 1 F0 a),(3,.s (.one (.ref 3 0))),(5,.s (.one (.buf 5 Span 2 spanC (S5 0 0 k)))),(6,C3 n),(15,C3 n),(16,C3 k)],[(3,.box [.p (.list Int 1 F0 b)]),(5,.spare (S5 0 0 k).length 2 139)])) (fun k=>k≤n) (fun k=>n - k) 0 (Nat.zero_le _) (Sees.of ⟨le1 rfl,le1 rfl,le1 rfl,le1 rfl,le1 rfl,le1 rfl,trivial⟩ ⟨rfl,rfl,trivial⟩) ?_))
 intro k hk
 dsimp only at hk ⊢
 have hrl:=E57 0 0 k
 refine k2 (A2 (G7 J J J (A4 ?_)));refine k1 (k2 ?_);refine B0 rfl (fun ht=>?_) (fun ht=>?_)
 ·have hlt:k < n:=by have:=A0 ht;omega
  have hsn:=G01 0 0 k
  refine k5 (k1 (k2 (k3 (k2 (A2 (A3 J J (A6 J J (A4 ?_))))))));refine k1 (A2 (A3 J J (A3 J J (A3 J J (A5 (I8 J) J (A5 (D1 (c:=spanC) (ys:=[⟨(k:Int),(k:Int)⟩]) (E5 J J J J H1) J J J) J (D2 (M6 J J J (.pure _ _ _ _) (by (simp only [J64,J68];omega)) J) J (A6 J J (A4 ?_)))))))));refine k4 (k1 (A2 (E4 J J J (A3 J J (A4 ?_)))));refine k1 ?_;refine ⟨k+1,by omega,by omega,?_⟩
  rw [hsn,show (0:Int)+(k:Int)=k by omega]
  exact Sees.of ⟨le1 rfl,le1 rfl,le1 rfl,le1 rfl,le1 rfl,le1 rfl,trivial⟩ ⟨rfl,rfl,trivial⟩
 have hk':k=n:=by have:=A1 ht;omega
 subst hk'
 obtain ⟨a',ha'⟩:∃a',a'=a.drop k:=⟨_,rfl⟩
 obtain ⟨b',hb'⟩:∃b',b'=b.drop k:=⟨_,rfl⟩
 have hal:a'.length≤4096:=by rw [ha',J76];omega
 have hbl:b'.length≤4096:=by rw [hb',J76];omega
 rw [Int.zero_add,←ha',←hb'] at hbeg
 refine k6 (k2 (F5 (by kernel_rfl) (by kernel_rfl) (F9 J J (F9 J J (B5 (F06 J (.pure _ _ _ _) J (by omega) (by omega)) J J (B5 (C6 J J J) J J (F9 J J (B5 (F06 J (.pure _ _ _ _) J (by omega) (by omega)) J J (B5 (J8 J J) J J (d_eff (C4 TySz.out J J J J J J) J (R1 ?_)))))))))))
 rw [J62,←ha',←hb']
 refine k1 (k2 (A2 (A3 J J (G3 J J J J (D8 (F01 a' b' hal hbl) J J J ?_)))));rintro _ rfl;refine D2 (I9 8 J) J (H7 (C4 TySz.out J J J J J J) (A4 ?_));refine k1 (k2 (A2 (A5 (m8 J J) J (A6 J J (A4 ?_)))));refine k1 (k2 (k2 (A2 (A6 J J (A6 J J (A4 ?_))))));refine k1 (k3 (D6 (X:=Nat × Nat × List Span) (fun x=>([(0,D5 Int 1 F0 a'),(3,.s (.one (.ref 3 0))),(5,.s (.one (.buf 5 Span 2 spanC x.2.2))),(6,C3 k),(8,.s (.one (.ref 8 0))),(9,.s (.one (.clo 110 [] [(8,0),(3,0)]))),(10,C3 x.1),(11,C3 x.2.1)],[(3,.box [.p (.list Int 1 F0 b')]),(5,.spare x.2.2.length 2 139),(8,.box [.p (.list Int 1 C34 (flat a' b' (fun _ _=>true)))])])) (fun x=>x.1≤a'.length∧x.2.1≤b'.length∧x.2.2.length≤k+x.1∧K4 0 0 a b=x.2.2++K4 (k+x.1) (k+x.2.1) (a'.drop x.1) (b'.drop x.2.1)) (fun x=>(a'.length - x.1)+(b'.length - x.2.1)) (0,0,S5 0 0 k) ⟨Nat.zero_le _,Nat.zero_le _,by rw [hrl];exact Nat.le_refl _,by simpa using hbeg⟩ (Sees.of ⟨le1 rfl,le1 rfl,le1 rfl,le1 rfl,le1 rfl,le1 rfl,le1 rfl,le1 rfl,trivial⟩ ⟨rfl,rfl,rfl,trivial⟩) ?_))
 rintro ⟨i,j,out⟩ ⟨hi,hj,hol,he⟩
 dsimp only at hi hj hol he ⊢
 refine k2 (k2 (A2 (A3 J J (A3 J J (F3 J J (G7 J J J (A3 J J (C2 J J J J (fun hg=>by rw [hg];exact C8 J J) ?_))))))));refine C2 J J J J (fun hg=>by rw [hg];exact C6 J J J) ?_;refine C2 J J J J (fun hg=>by rw [hg];exact r5 J (.pure _ _ _ _)) ?_;refine C2 J J J J (fun hg=>by rw [hg];exact B34 J J) ?_;refine A5 (D7 J (fun h=>by first | rfl | (rw [h];rfl)) (fun h=>by first | rfl | (rw [h];rfl))) J ?_;refine A4 ?_;refine k1 ?_;refine B0 rfl (fun ht=>?_) (fun ht=>?_)
 ·simp only [or_pick] at ht
  have hcond:=A0 ht
  refine A29 [(0,D5 Int 1 F0 a'),(3,.s (.one (.ref 3 0))),(5,.s (.one (.buf 5 Span 2 spanC out))),(6,C3 k),(8,.s (.one (.ref 8 0))),(9,.s (.one (.clo 110 [] [(8,0),(3,0)]))),(10,C3 i),(11,C3 j)] [(3,.box [.p (.list Int 1 F0 b')]),(5,.spare out.length 2 139),(8,.box [.p (.list Int 1 C34 (flat a' b' (fun _ _=>true)))])] (Sees.of ⟨le1 rfl,le1 rfl,le1 rfl,le1 rfl,le1 rfl,le1 rfl,le1 rfl,le1 rfl,trivial⟩ ⟨rfl,rfl,rfl,trivial⟩) ?_
  refine k5 (k1 (k3 (k3 (k2 (F5 (by kernel_rfl) (by kernel_rfl) (F9 J J (F9 J J (B5 (r5 J (.pure _ _ _ _)) J J (B5 (B34 J J) J J (F9 J J (F7 J J (fun hg=>by rw [hg];exact C8 J J) J J ?_)))))))))));refine F7 J J (fun hg=>by rw [hg];exact C6 J J J) J J ?_;refine F7 J J (fun hg=>by rw [hg];exact r5 J (.pure _ _ _ _)) J J ?_;refine F7 J J (fun hg=>by rw [hg];exact B34 J J) J J ?_;refine B5 (D7 J (fun h=>by first | rfl | (rw [h];rfl)) (fun h=>by first | rfl | (rw [h];rfl))) J J ?_;refine F9 J J (F7 J J (fun hg=>by rw [hg];exact C8 J J) J J ?_);refine F7 J J (fun hg=>by rw [hg];exact C8 J J) J J ?_;refine F7 J J (fun hg=>by have hq:=hg;(try simp at hq);rw [hg];exact B3 J (.pure _ _ _ _) J (by omega) (C60 (by omega))) J J ?_;refine F7 J J (fun hg=>by rw [hg];exact B1 J J) J J ?_;refine F7 J J (fun hg=>by rw [hg];exact C6 J J J) J J ?_;refine F7 J J (fun hg=>by rw [hg];exact C8 J J) J J ?_;refine F7 J J (fun hg=>by have hq:=hg;(try simp at hq);rw [hg];exact B3 J (.pure _ _ _ _) J (by omega) (C60 (by omega))) J J ?_;refine F7 J J (fun hg=>by rw [hg];exact B1 J J) J J ?_;refine F7 J J (fun hg=>by rw [hg];exact F4 J J) J J ?_;refine B5 (D7 J (fun h=>by first | rfl | (rw [h];rfl)) (fun h=>by first | rfl | (rw [h];rfl))) J J ?_;refine B5 (J8 J J) J J (R1 ?_);refine k1 ?_;refine B0 rfl (fun ht=>?_) (fun ht=>?_)
  ·simp only [T7] at ht
   obtain ⟨⟨h1,h2⟩,h3⟩:=A0 ht
   have h1:i < a'.length:=by omega
   have h2:j < b'.length:=by omega
   rw [D57 a' b' i j h1 h2,if_pos (by simpa [h1,h2] using h3)] at he
   refine A29 [(0,D5 Int 1 F0 a'),(3,.s (.one (.ref 3 0))),(5,.s (.one (.buf 5 Span 2 spanC out))),(6,C3 k),(8,.s (.one (.ref 8 0))),(9,.s (.one (.clo 110 [] [(8,0),(3,0)]))),(10,C3 i),(11,C3 j)] [(3,.box [.p (.list Int 1 F0 b')]),(5,.spare out.length 2 139),(8,.box [.p (.list Int 1 C34 (flat a' b' (fun _ _=>true)))])] (Sees.of ⟨le1 rfl,le1 rfl,le1 rfl,le1 rfl,le1 rfl,le1 rfl,le1 rfl,le1 rfl,trivial⟩ ⟨rfl,rfl,rfl,trivial⟩) ?_
   refine k2 (A2 (A3 J J (A3 J J (A3 J J (E4 J J J (A3 J J (A3 J J (E4 J J J (A5 (I8 J) J (A5 (D1 (c:=spanC) (ys:=[⟨(k:Int)+i,(k:Int)+j⟩]) (E5 J J J J H1) J J J) J (D2 (M6 J J J (.pure _ _ _ _) (by (simp only [J64,J68];omega)) J) J (A6 J J (A4 ?_)))))))))))));refine k1 (A2 (A3 J J (E4 J J J (A3 J J (E4 J J J (A6 J J (A6 J J (A4 ?_))))))));refine k4 (k4 (k1 ?_));refine ⟨(i+1,j+1,out++[⟨(k:Int)+i,(k:Int)+j⟩]),⟨by dsimp only;omega,by dsimp only;omega,by simp;omega,?_⟩,by dsimp only;omega,Sees.of ⟨le1 rfl,le1 rfl,le1 rfl,le1 rfl,le1 rfl,le1 rfl,le1 rfl,le1 rfl,trivial⟩ ⟨rfl,rfl,rfl,trivial⟩⟩
   dsimp only
   rw [he,J73]
   congr 2
  ·simp only [T7] at ht
   have hno:=A1 ht
   refine A29 [(0,D5 Int 1 F0 a'),(3,.s (.one (.ref 3 0))),(5,.s (.one (.buf 5 Span 2 spanC out))),(6,C3 k),(8,.s (.one (.ref 8 0))),(9,.s (.one (.clo 110 [] [(8,0),(3,0)]))),(10,C3 i),(11,C3 j)] [(3,.box [.p (.list Int 1 F0 b')]),(5,.spare out.length 2 139),(8,.box [.p (.list Int 1 C34 (flat a' b' (fun _ _=>true)))])] (Sees.of ⟨le1 rfl,le1 rfl,le1 rfl,le1 rfl,le1 rfl,le1 rfl,le1 rfl,le1 rfl,trivial⟩ ⟨rfl,rfl,rfl,trivial⟩) ?_
   by_cases h1:i < a'.length
   ·have hr:decide ((i:Int) < (a'.length:Int))=true:=decide_eq_true (by omega)
    have hd1:=G00 (a'.drop (i+1)) (b'.drop j)
    simp only [J76] at hd1
    have hstep:¬j < b'.length→dist (a'.drop (i+1)) (b'.drop j)+1=dist (a'.drop i) (b'.drop j)∧K4 (k+i) (k+j) (a'.drop i) (b'.drop j)=K4 (k+i+1) (k+j) (a'.drop (i+1)) (b'.drop j):=by
     intro hj2
     rw [show b'.drop j=[] from J78 (by omega),C68,C68,J76,J76,n9,n9]
     exact ⟨by omega,rfl⟩
    have hgo:j < b'.length→K4 (k+i) (k+j) (a'.drop i) (b'.drop j)=if dist (a'.drop (i+1)) (b'.drop j)+1=dist (a'.drop i) (b'.drop j) then K4 (k+i+1) (k+j) (a'.drop (i+1)) (b'.drop j) else K4 (k+i) (k+j+1) (a'.drop i) (b'.drop (j+1)):=by
     intro h2
     rw [D57 a' b' i j h1 h2,if_neg]
     intro h3
     exact hno ⟨⟨by omega,by omega⟩,by simpa [h1,h2] using h3⟩
    refine k2 (A2 (A3 J J (A3 J J (F3 J J (G7 J J J (A3 J J (G6 J J J hr (A3 J J (G6 J J J hr (A3 J J (G6 J J J hr (E4 J J J (G6 J J J hr (A3 J J (G6 J J J hr (A96 (I11 a' b' (i+1) j hal hbl (by omega) hj J J) J J J J ?_))))))))))))))));rintro _ _ ⟨rfl,rfl⟩;refine G6 J J J hr (E4 J J J (G6 J J J hr (A3 J J (G6 J J J hr (A3 J J (G6 J J J hr (A3 J J (G6 J J J hr (A96 (I11 a' b' i j hal hbl hi hj J J) J J J J ?_)))))))));rintro _ _ ⟨rfl,rfl⟩;refine G6 J J J hr (A5 (F4 J J) J (A5 (D7 J (fun h=>by first | rfl | (rw [h];rfl)) (fun h=>by first | rfl | (rw [h];rfl))) J ?_));refine A6 J J (A4 ?_);refine k1 ?_;refine B0 rfl (fun ht=>?_) (fun ht=>?_)
    ·simp only [T7] at ht
     obtain ⟨_,h3⟩:=A0 ht
     have h3:dist (a'.drop (i+1)) (b'.drop j)+1=dist (a'.drop i) (b'.drop j):=by omega
     have hnext:K4 (k+i) (k+j) (a'.drop i) (b'.drop j)=K4 (k+i+1) (k+j) (a'.drop (i+1)) (b'.drop j):=by
      by_cases h2:j < b'.length
      ·rw [hgo h2,if_pos h3]
      ·exact (hstep h2).2
     rw [hnext] at he
     skip
     refine A2 (A3 J J (E4 J J J (A6 J J (A4 ?_))));refine k4 (k4 (k1 ?_));refine ⟨(i+1,j,out),⟨by dsimp only;omega,by dsimp only;omega,by dsimp only;omega,?_⟩,by dsimp only;omega,Sees.of ⟨le1 rfl,le1 rfl,le1 rfl,le1 rfl,le1 rfl,le1 rfl,le1 rfl,le1 rfl,trivial⟩ ⟨rfl,rfl,rfl,trivial⟩⟩
     dsimp only
     rw [he,show (k:Int)+(i:Int)+1=(k:Int)+((i+1:Nat):Int) by omega]
    ·simp only [T7] at ht
     have h3:=A1 ht
     have h3:¬dist (a'.drop (i+1)) (b'.drop j)+1=dist (a'.drop i) (b'.drop j):=fun q=>h3 ⟨by omega,by omega⟩
     have h2:j < b'.length:=by
      by_cases h2:j < b'.length
      ·exact h2
      ·exact absurd (hstep h2).1 h3
     rw [hgo h2,if_neg h3] at he
     skip
     refine A2 (A3 J J (E4 J J J (A6 J J (A4 ?_))));refine k4 (k4 (k1 ?_));refine ⟨(i,j+1,out),⟨by dsimp only;omega,by dsimp only;omega,by dsimp only;omega,?_⟩,by dsimp only;omega,Sees.of ⟨le1 rfl,le1 rfl,le1 rfl,le1 rfl,le1 rfl,le1 rfl,le1 rfl,le1 rfl,trivial⟩ ⟨rfl,rfl,rfl,trivial⟩⟩
     dsimp only
     rw [he,show (k:Int)+(j:Int)+1=(k:Int)+((j+1:Nat):Int) by omega]
   ·have hrf:decide ((i:Int) < (a'.length:Int))=false:=decide_eq_false (by omega)
    have h2:j < b'.length:=by omega
    refine k2 (A2 (A3 J J (A3 J J (F3 J J (G7 J J J (A3 J J (I6 J J J (by rw [hrf];decide) J ?_)))))));refine I6 J J J (by rw [hrf];decide) J ?_;refine I6 J J J (by rw [hrf];decide) J ?_;refine I6 J J J (by rw [hrf];decide) J ?_;refine I6 J J J (by rw [hrf];decide) J ?_;refine I6 J J J (by rw [hrf];decide) J ?_;refine I6 J J J (by rw [hrf];decide) J ?_;refine I6 J J J (by rw [hrf];decide) J ?_;refine I6 J J J (by rw [hrf];decide) J ?_;refine I6 J J J (by rw [hrf];decide) J ?_;refine I6 J J J (by rw [hrf];decide) J ?_;refine A5 (W9 J (hrf) J) J (A6 J J (A4 ?_));refine k1 ?_;refine B0 rfl (fun ht=>?_) (fun ht=>?_)
    ·cases ht
    ·skip
     refine A2 (A3 J J (E4 J J J (A6 J J (A4 ?_))));refine k4 (k4 (k1 ?_));refine ⟨(i,j+1,out),⟨by dsimp only;omega,by dsimp only;omega,by dsimp only;omega,?_⟩,by dsimp only;omega,Sees.of ⟨le1 rfl,le1 rfl,le1 rfl,le1 rfl,le1 rfl,le1 rfl,le1 rfl,le1 rfl,trivial⟩ ⟨rfl,rfl,rfl,trivial⟩⟩
     dsimp only
     rw [he,show a'.drop i=[] from J78 (by omega),V1,V1]
 ·simp only [or_pick] at ht
  have hcond:=A1 ht
  rw [show a'.drop i=[] from J78 (by omega),V1,J87] at he
  refine k6 (k2 (A2 (A3 J J (A6 J J (A4 ?_)))));refine k1 (k10 ?_)
  exact B7 (I4 rfl rfl rfl) (by rw [he])
theorem H53 (a b:List Int) (ha:a.length≤4096) (hb:b.length≤4096):FnOk Tryz.prog 44 [L1 a,L1 b] (fun rs=>rs=[pChanges (B60 a b),G1 0]):=by
 have hA:=C32 a b 0 0
 rw [Int.zero_add,Int.zero_add] at hA
 have hl:=C08 0 0 a b
 refine FnOk.intro Tryz.func44 (by decide) J J J J ?_
 refine k2 (A2 (A6 J J (A6 J J (A4 ?_))));refine k1 (k2 (k2 (A2 (A3 J J (A3 J J (D8 (G68 a b) J J J ?_))))));rintro _ rfl;refine A5 (U0 J) J (A4 ?_);refine k1 ?_;refine B0 rfl (fun ht=>?_) (fun ht=>?_)
 ·exfalso
  have h:decide ((a.length:Int)≤4096∧(b.length:Int)≤4096)=true:=decide_eq_true ⟨by omega,by omega⟩
  rw [h] at ht;cases ht
 refine k5 (k1 (k2 (A2 (A3 J J (A3 J J (D8 (J19 a b ha hb) J J J ?_))))));rintro _ rfl;refine A3 J J (F3 J J (A3 J J (F3 J J (D8 (E99 (K4 0 0 a b) a.length b.length ⟨by omega,by omega⟩ ⟨by omega,by omega⟩ hA (by omega)) J J J ?_))));rintro _ rfl;refine H5 J J J (H5 J J J (A6 J J (A6 J J (A4 ?_))));refine k1 (k10 ?_)
 exact B7 (l9 rfl rfl rfl rfl rfl) rfl
end Go.Proofs.YtkahafmcmiiolaaGreatDoor
namespace Go.Proofs.YtkahafmcmiiolaaGreatDoor
open Go Go.AL
set_option maxRecDepth 100000
set_option maxHeartbeats 1000000
theorem tid_old {gf:Fr} {ob:Obs} (names:List Str) (s:Str) (hs:s∈names) (h0:B4 ob 710=some (.box [.mut 711,.buf 712 Str 1 P5 names])) (h1:B4 ob 711=some (.map Str i6 (y7 names 0))) :
  AL.Met Tryz.prog 105 [.one (.ref 710 0),.one (.p (.v (.string ⟨s.toArray⟩)))] gf ob [] (fun rs ob'=>rs=[.one (.p (.v (.int .i64 (L8 names s 0))))]∧ob'=ob):=by
 have hg:=F44 s names 0 hs
 refine AL.Met.intro Tryz.func105 (by decide) J J J ?_
 refine k2 (A2 (A6 J J (A4 ?_)));refine k1 (k2 (A2 (A3 J J (A5 (B2 J) J (A5 (A7 J) J (A5 (C6 J h0 J) J (A3 J J (A5 (B40 (s) (r:=some (.v (.int .i64 (L8 names s 0)))) J h1 J s7 s8 (hg)) J (A3 J J (H5 J J J (H5 J J J (A6 J J (A6 J J (A4 ?_))))))))))))));refine k1 (k2 (k2 (A2 (A3 J J (A5 (U0 J) J (A4 ?_))))));refine k1 ?_;refine B0 rfl (fun ht=>?_) (fun ht=>?_)
 ·cases ht
 refine k5 (k1 (k2 (A2 (A3 J J (A6 J J (A4 ?_))))));refine k1 (k10 ?_)
 exact E0 (H9 rfl rfl) (by repeat (first | exact A8 | refine A9 rfl ?_ | refine B6 _ ?_)) (fun _ _ h=>h) ⟨rfl,rfl⟩
theorem tid_new {gf:Fr} {ob:Obs} (names:List Str) (s:Str) (hs:s∉names) (hl:names.length≤1073741823) (h0:B4 ob 710=some (.box [.mut 711,.buf 712 Str 1 P5 names])) (h1:B4 ob 711=some (.map Str i6 (y7 names 0)))
  (h2:B4 ob 712=some (.spare names.length 1 9)) :
  AL.Met Tryz.prog 105 [.one (.ref 710 0),.one (.p (.v (.string ⟨s.toArray⟩)))] gf ob [712] (fun rs ob'=>rs=[.one (.p (.v (.int .i64 names.length)))]∧ob'=(710,.box [.mut 711,.buf 712 Str 1 P5 (names++[s])])::(712,.spare (names++[s]).length 1 9)::Obs.forget 712 ((711,.map Str i6 (y7 names 0++[(s,.v (.int .i64 names.length))]))::ob)):=by
 have hg:=E69 s names 0 hs
 refine AL.Met.intro Tryz.func105 (by decide) J J J ?_
 refine k2 (A2 (A6 J J (A4 ?_)));refine k1 (k2 (A2 (A3 J J (A5 (B2 J) J (A5 (A7 J) J (A5 (C6 J h0 J) J (A3 J J (A5 (B40 (s) (r:=none) J h1 J s7 s8 (hg)) J (A3 J J (H5 J J J (H5 J J J (A6 J J (A6 J J (A4 ?_))))))))))))));refine k1 (k2 (k2 (A2 (A3 J J (A5 (U0 J) J (A4 ?_))))));refine k1 ?_;refine B0 rfl (fun ht=>?_) (fun ht=>?_)
 ·refine k2 (A2 (A3 J J (A5 (B2 J) J (A5 (A7 J) J (A5 (C6 J h0 J) J (A5 (r5 J (.buf _ _ _ _ _)) J (A6 J J (A4 ?_))))))));refine k1 (k2 (A2 (A3 J J (A5 (B2 J) J (A5 (A7 J) J (A5 (C6 J h0 J) J (A3 J J (A3 J J (H7 (G24 (s) J h1 J J J s7 s8 (hg)) (A4 ?_))))))))));refine k1 ?_
  have h0':B4 ((711,Ob.map Str i6 (y7 names 0++[(s,.v (.int .i64 names.length))]))::ob) 710=some (.box [.mut 711,.buf 712 Str 1 P5 names]):=by rw [B9 (by decide)];exact h0
  have h2':B4 ((711,Ob.map Str i6 (y7 names 0++[(s,.v (.int .i64 names.length))]))::ob) 712=some (.spare names.length 1 9):=by rw [B9 (by decide)];exact h2
  have h0'':B4 ((712,Ob.spare (names++[s]).length 1 9)::Obs.forget 712 ((711,Ob.map Str i6 (y7 names 0++[(s,.v (.int .i64 names.length))]))::ob)) 710=some (.box [.mut 711,.p (.list Str 1 P5 names)]):=by
   rw [B9 (by decide),J7,h0'];rfl
  refine A2 (A3 J J (A3 J J (A5 (B2 J) J (A5 (A7 J) J (A5 (C6 J h0' J) J (A3 J J (A5 (D1 (c:=P5) (ys:=[s]) (E5 J J J J H1) J J J) J (D2 (M6 J h2' J (.pure _ _ _ _) (by (simp only [J64,J68];omega)) J) J (A5 (B2 J) J (A5 (A7 J) J (H7 (C4 TySz.out J h0'' J J J J) (A4 ?_))))))))))));refine k1 (k2 (A2 (A3 J J (A6 J J (A4 ?_)))));refine k1 (k10 ?_)
  exact E0 (H9 rfl rfl) (by repeat (first | exact A8 | refine A9 rfl ?_ | refine B6 _ ?_)) (fun _ _ h=>h) ⟨rfl,rfl⟩
 ·cases ht
theorem H54 (files:List (List Str)) (i m:Nat):(O0 files i).all (TC.free m)=true:=by
 rw [List.all_eq_true]
 intro t ht
 unfold O0 at ht
 obtain ⟨r,_,rfl⟩:=List.mem_map.1 ht
 split<;>rfl
theorem I62 {files:List (List Str)} {i:Nat} (b x:TC) (m:Nat):(((O0 files i).set i b).map (TC.forget m)).set i x=(O0 files i).set i x:=by
 have e1:(O0 files i).map (TC.forget m)=O0 files i:=by
  unfold O0
  rw [J94]
  apply List.map_congr_left
  intro r _
  simp only [Function.comp]
  split<;>rfl
 rw [List.map_set,e1,List.set_set]
theorem H55 {files:List (List Str)} {i:Nat} (b x:TC) (m m':Nat):((((O0 files i).set i b).map (TC.forget m)).map (TC.forget m')).set i x=(O0 files i).set i x:=by
 have e1:∀m,(O0 files i).map (TC.forget m)=O0 files i:=by
  intro m
  unfold O0
  rw [J94]
  apply List.map_congr_left
  intro r _
  simp only [Function.comp]
  split<;>rfl
 rw [List.map_set,e1,List.map_set,e1,List.set_set]
theorem I63 (files:List (List Str)) (hn:files.length≤1048576) (hl:files.flatten.length≤536870911):FnOk Tryz.prog 73 [pStrss files] (fun rs=>rs=[pIntss (files.map (L5 (G9 files))),B91 (G9 files)]):=by
 refine FnOk.intro Tryz.func73 (by decide) J J J J ?_
 refine k2 (A2 (A6 J J (A6 J J (A4 ?_))));refine k1 (k2 (A2 (D2 (D02 711 Str i6 J) J (A5 (I8 J) J (D2 (l4 710 J J J) J (A6 J J (A4 ?_)))))));refine k1 (k2 (D9 (J55 712 Str 1 P5 9 (kb:=710) (o:=1) J J J) ?_))
 refine A2 (A3 J J (F3 J J (D2 (A30 20 Unit (fun _ _=>.v (.slice none 0 0)) () J J (by omega) (by omega) (fun _=>by first | exact ⟨⟨rfl,rfl⟩,trivial⟩ | exact ⟨I5 _ _ _,trivial⟩ | exact ⟨I5 _ _ _,⟨rfl,rfl⟩,I5 _ _ _,trivial⟩) (by first | rfl | (simp [J6,K0,Ob.free,SV.free,S1.free,TC.free]<;>rfl))) J ?_)));refine A6 J J (A4 ?_);refine k1 (k2 (k2 (D9 (J58 20 J) ?_)))
 have hz:((List.replicate ((files.length:Nat):Int).toNat ()).map fun x=>TC.p ((fun (_:Unit) (_:Nat)=>Cell.v (.slice none 0 0)) x 0))=O0 files 0:=by
  rw [J62,←H80];simp
 have hz2:(List.replicate ((files.length:Nat):Int).toNat ()).length=files.length:=by simp
 rw [hz,hz2]
 refine A2 (A3 J J (F3 J J (A3 J J (A4 ?_))));refine k1 (k3 ?_);refine D6 (X:=Nat) (fun i=>([(4,.s (.one (.ref 710 0))),(5,.s (.one (.mut 20))),(16,D5 (List Str) 1 strsC files),(17,C3 files.length),(18,C3 i)],[(710,.box [.mut 711,.buf 712 Str 1 P5 (N3 files i 0)]),(711,.map Str i6 (y7 (N3 files i 0) 0)),(712,.spare (N3 files i 0).length 1 9),(20,.tarr files.length 1 (O0 files i))])) (fun i=>i≤files.length) (fun i=>files.length - i) 0 (Nat.zero_le _) ?_ ?_
 ·rw [show N3 files 0 0=[] from rfl]
  exact Sees.of ⟨le1 rfl,le1 rfl,le1 rfl,le1 rfl,le1 rfl,trivial⟩ ⟨rfl,rfl,rfl,rfl,trivial⟩
 intro i hi
 dsimp only at hi ⊢
 refine k2 (A2 (G7 J J J (A4 ?_)));refine k1 (k2 ?_);refine B0 rfl (fun ht=>?_) (fun ht=>?_)
 ·have hlt:i < files.length:=by have:=A0 ht;omega
  obtain ⟨f,hf⟩:∃f,f=files.getD i []:=⟨_,rfl⟩
  have hv:files[i]?=some f:=by rw [hf];simp [hlt]
  have hfl:f.length≤files.flatten.length:=by
   have h1:f∈files:=J69 hv
   have:∀(fs:List (List Str)),f∈fs→f.length≤fs.flatten.length:=by
    intro fs
    induction fs with
    | nil=>intro h;simp at h
    | cons x r ih =>
     intro h
     simp only [J92,J63]
     rcases List.mem_cons.1 h with rfl | h
     ·omega
     ·have:=ih h;omega
   exact this files h1
  have hrl:(O0 files i).length=files.length:=by simp [O0]
  refine k5 (k1 (k2 (k3 (k2 (A2 (A3 J J (A5 (B3 J (.pure _ _ _ _) J (by omega) hv) J (A5 (B1 J J) J (A6 J J (A6 J J (A4 ?_)))))))))));refine k1 (k2 (A2 (A3 J J (F3 J J (A3 J J (A4 ?_))))));refine k1 (k3 (D9 (J56 713 Int 1 F0 3 (kb:=20) (o:=i) J (I82 hlt) (by simp [J6,K0,Ob.free,SV.free,S1.free,TC.free,H54];repeat' (first | rfl | constructor))) ?_))
  refine D6 (X:=Nat) (fun j=>([(4,.s (.one (.ref 710 0))),(5,.s (.one (.mut 20))),(6,C3 i),(16,D5 (List Str) 1 strsC files),(17,C3 files.length),(18,C3 i),(23,D5 Str 1 P5 f),(24,C3 f.length),(25,C3 j)],[(20,.tarr files.length 1 ((O0 files i).set i (.buf 713 Int 1 F0 (L5 (G9 files) (f.take j))))),(710,.box [.mut 711,.buf 712 Str 1 P5 (N3 files i j)]),(711,.map Str i6 (y7 (N3 files i j) 0)),(712,.spare (N3 files i j).length 1 9),(713,.spare (L5 (G9 files) (f.take j)).length 1 3)])) (fun j=>j≤f.length) (fun j=>f.length - j) 0 (Nat.zero_le _) ?_ ?_
  ·exact Sees.of ⟨le1 rfl,le1 rfl,le1 rfl,le1 rfl,le1 rfl,le1 rfl,le1 rfl,le1 rfl,le1 rfl,trivial⟩ ⟨rfl,rfl,rfl,rfl,rfl,trivial⟩
  intro j hj
  dsimp only at hj ⊢
  refine k2 (A2 (G7 J J J (A4 ?_)));refine k1 (k2 ?_);refine B0 rfl (fun ht=>?_) (fun ht=>?_)
  ·have hlt2:j < f.length:=by have:=A0 ht;omega
   obtain ⟨s,hs⟩:∃s,s=f[j]:=⟨_,rfl⟩
   have hvs:f[j]?=some s:=by rw [hs];simp [hlt2]
   have hstep:=G07 files i j s (by rw [←hf];exact hvs)
   obtain ⟨names,hnm⟩:∃names,names=N3 files i j:=⟨_,rfl⟩
   have hnl:=E70 files i j
   obtain ⟨rest,hrest⟩:=D65 files i (j+1)
   obtain ⟨ids,hids⟩:∃ids,ids=L5 (G9 files) (f.take j):=⟨_,rfl⟩
   have hil:ids.length=j:=by rw [hids];simp [L5];omega
   have hnext:L5 (G9 files) (f.take (j+1))=ids++[L8 (G9 files) s 0]:=by
    rw [hids,K00 hlt2,←hs];unfold L5;rw [J91];rfl
   rw [hstep] at hrest
   rw [←hnm] at hstep hnl hrest ⊢
   rw [←hids]
   have hTi:((O0 files i).set i (.buf 713 Int 1 F0 ids))[((i:Nat):Int).toNat]?=some (.buf 713 Int 1 F0 ids):=by
    rw [J62,List.getElem?_set_self (by rw [hrl];omega)]
   have hTi2:(((O0 files i).set i (.buf 713 Int 1 F0 ids)).map (TC.forget 712))[((i:Nat):Int).toNat]?=some (.buf 713 Int 1 F0 ids):=by
    rw [K02,hTi];rfl
   refine k5 (k1 (k2 (k3 (k2 (A2 (A5 (B3 J (.pure _ _ _ _) J (by omega) hvs) J (A5 (B1 J J) J (A6 J J (A4 ?_)))))))))
   by_cases hmem:s∈names
   ·have hns:L9 names s=names:=by unfold L9;rw [if_pos hmem]
    rw [hns] at hstep hrest
    have hpl:L8 (G9 files) s 0=L8 names s 0:=by rw [hrest];exact B65 s rest names 0 hmem
    refine Q0 ?_
    refine A29 ((9,V5 s)::[(4,.s (.one (.ref 710 0))),(5,.s (.one (.mut 20))),(6,C3 i),(16,D5 (List Str) 1 strsC files),(17,C3 files.length),(18,C3 i),(23,D5 Str 1 P5 f),(24,C3 f.length),(25,C3 j)]) [(20,.tarr files.length 1 ((O0 files i).set i (.buf 713 Int 1 F0 ids))),(710,.box [.mut 711,.buf 712 Str 1 P5 names]),(711,.map Str i6 (y7 names 0)),(712,.spare names.length 1 9),(713,.spare ids.length 1 3)] (Sees.of ⟨le1 rfl,le1 rfl,le1 rfl,le1 rfl,le1 rfl,le1 rfl,le1 rfl,le1 rfl,le1 rfl,le1 rfl,trivial⟩ ⟨rfl,rfl,rfl,rfl,rfl,trivial⟩) ?_
    refine N6 [12,10,8] [[],[8],[10,8],[12,10,8]] [(8,([],[])),(10,([713],[34])),(12,([],[]))] [(0,[]),(1,[]),(2,[]),(3,[]),(4,[]),(5,[]),(6,[]),(7,[]),(8,[]),(9,[8]),(10,[8]),(11,[10,8]),(12,[10,8])] [(0,[8]),(0,[10,8]),(1,[8]),(1,[10,8]),(2,[8]),(3,[8]),(4,[8]),(5,[8])] (by kernel_rfl) (by kernel_rfl) (E2 J J (by kernel_rfl) J J (C8 J J) (E2 J J (by kernel_rfl) J J (C8 J J) (E2 J J (by kernel_rfl) J J (C8 J J) (E2 J J (by kernel_rfl) J J (C8 J J) (E2 J J (by kernel_rfl) J J (Q4 J J J (by omega) (by omega)) (E2 J J (by kernel_rfl) J J (o7 J J (by first | exact hTi | exact hTi2)) ?_))))));refine E2 J J (by kernel_rfl) J J (C8 J J) (E2 J J (by kernel_rfl) J J (C8 J J) (U9 J J (by kernel_rfl) J J (r_met (fun gf=>tid_old names s hmem J J) J J) J (E2 J J (by kernel_rfl) J J (D1 (c:=F0) (ys:=[L8 names s 0]) (E5 J J J J H1) J J J) (U9 J J (by kernel_rfl) J J (D04 (fun frc hU=>M6 (Q5 hU J) J (Q5 hU J) (.pure _ _ _ _) (by (simp only [J64,J68];omega)) J)) J (E2 J J (by kernel_rfl) J J (Q4 J J J (by omega) (by omega)) (U9 J J (by kernel_rfl) J J (A34 (fun frc hU=>B37 TySz.out (Q5 hU J) J (by (simp;omega)) (Q5 hU J) J)) J ?_))))));refine F12 (by kernel_rfl) rfl ?_ ?_
    ·refine M2 J J (by kernel_rfl) J J (C8 J J) (M2 J J (by kernel_rfl) J J (C8 J J) (M2 J J (by kernel_rfl) J J (C8 J J) (M2 J J (by kernel_rfl) J J (C8 J J) (M2 J J (by kernel_rfl) J J (C8 J J) (M2 J J (by kernel_rfl) J J (C8 J J) (M2 J J (by kernel_rfl) J J (Q4 J J J (by omega) (by omega)) (M2 J J (by kernel_rfl) J J (o7 J J (by first | exact hTi | exact hTi2)) ?_)))))));exact B41
    refine A29 [(4,.s (.one (.ref 710 0))),(5,.s (.one (.mut 20))),(6,C3 i),(16,D5 (List Str) 1 strsC files),(17,C3 files.length),(18,C3 i),(23,D5 Str 1 P5 f),(24,C3 f.length),(25,C3 j)] [(20,.tarr files.length 1 ((O0 files i).set i (.buf 713 Int 1 F0 (ids++[L8 names s 0])))),(710,.box [.mut 711,.buf 712 Str 1 P5 (names)]),(711,.map Str i6 (y7 (names) 0)),(712,.spare (names).length 1 9),(713,.spare (ids++[L8 names s 0]).length 1 3)] (by rw [J62 i,I62];exact Sees.of ⟨le1 rfl,le1 rfl,le1 rfl,le1 rfl,le1 rfl,le1 rfl,le1 rfl,le1 rfl,le1 rfl,trivial⟩ ⟨rfl,rfl,rfl,rfl,rfl,trivial⟩) ?_
    refine A2 (E4 J J J (A3 J J (A4 ?_)));refine k1 ?_
    exact ⟨j+1,hlt2,by omega,by rw [hstep,hnext,hpl];exact Sees.of ⟨le1 rfl,le1 rfl,le1 rfl,le1 rfl,le1 rfl,le1 rfl,le1 rfl,le1 rfl,le1 rfl,trivial⟩ ⟨rfl,rfl,rfl,rfl,rfl,trivial⟩⟩
   ·refine Q0 ?_
    have hns:L9 names s=names++[s]:=by unfold L9;rw [if_neg hmem]
    rw [hns] at hstep hrest
    have hkv:y7 (names++[s]) 0=y7 names 0++[(s,.v (.int .i64 (names.length:Int)))]:=by rw [F43];simp only [Int.zero_add]
    have hpl:L8 (G9 files) s 0=names.length:=by
     rw [hrest,B65 s rest (names++[s]) 0 (by simp),D64 s names 0 hmem];omega
    refine A29 ((9,V5 s)::[(4,.s (.one (.ref 710 0))),(5,.s (.one (.mut 20))),(6,C3 i),(16,D5 (List Str) 1 strsC files),(17,C3 files.length),(18,C3 i),(23,D5 Str 1 P5 f),(24,C3 f.length),(25,C3 j)]) [(20,.tarr files.length 1 ((O0 files i).set i (.buf 713 Int 1 F0 (ids)))),(710,.box [.mut 711,.buf 712 Str 1 P5 (names)]),(711,.map Str i6 (y7 (names) 0)),(712,.spare (names).length 1 9),(713,.spare (ids).length 1 3)] (Sees.of ⟨le1 rfl,le1 rfl,le1 rfl,le1 rfl,le1 rfl,le1 rfl,le1 rfl,le1 rfl,le1 rfl,le1 rfl,trivial⟩ ⟨rfl,rfl,rfl,rfl,rfl,trivial⟩) ?_
    refine N6 [12,10,8] [[],[8],[10,8],[12,10,8]] [(8,([712],[])),(10,([713],[34])),(12,([],[]))] [(0,[]),(1,[]),(2,[]),(3,[]),(4,[]),(5,[]),(6,[]),(7,[]),(8,[]),(9,[8]),(10,[8]),(11,[10,8]),(12,[10,8])] [(0,[8]),(0,[10,8]),(1,[8]),(1,[10,8]),(2,[8]),(3,[8]),(4,[8]),(5,[8])] (by kernel_rfl) (by kernel_rfl) (E2 J J (by kernel_rfl) J J (C8 J J) (E2 J J (by kernel_rfl) J J (C8 J J) (E2 J J (by kernel_rfl) J J (C8 J J) (E2 J J (by kernel_rfl) J J (C8 J J) (E2 J J (by kernel_rfl) J J (Q4 J J J (by omega) (by omega)) (E2 J J (by kernel_rfl) J J (o7 J J (by first | exact hTi | exact hTi2)) ?_))))));refine E2 J J (by kernel_rfl) J J (C8 J J) (E2 J J (by kernel_rfl) J J (C8 J J) (U9 J J (by kernel_rfl) J J (r_met (fun gf=>tid_new names s hmem (by omega) J J J) J J) J (E2 J J (by kernel_rfl) J J (D1 (c:=F0) (ys:=[(names.length:Int)]) (E5 J J J J H1) J J J) (U9 J J (by kernel_rfl) J J (D04 (fun frc hU=>M6 (Q5 hU J) J (Q5 hU J) (.pure _ _ _ _) (by (simp only [J64,J68];omega)) J)) J (E2 J J (by kernel_rfl) J J (Q4 J J J (by omega) (by omega)) (U9 J J (by kernel_rfl) J J (A34 (fun frc hU=>B37 TySz.out (Q5 hU J) J (by (simp;omega)) (Q5 hU J) J)) J ?_))))));refine F12 (by kernel_rfl) rfl ?_ ?_
    ·refine M2 J J (by kernel_rfl) J J (C8 J J) (M2 J J (by kernel_rfl) J J (C8 J J) (M2 J J (by kernel_rfl) J J (C8 J J) (M2 J J (by kernel_rfl) J J (C8 J J) (M2 J J (by kernel_rfl) J J (C8 J J) (M2 J J (by kernel_rfl) J J (C8 J J) (M2 J J (by kernel_rfl) J J (Q4 J J J (by omega) (by omega)) (M2 J J (by kernel_rfl) J J (o7 J J (by first | exact hTi | exact hTi2)) ?_)))))));exact B41
    refine A29 [(4,.s (.one (.ref 710 0))),(5,.s (.one (.mut 20))),(6,C3 i),(16,D5 (List Str) 1 strsC files),(17,C3 files.length),(18,C3 i),(23,D5 Str 1 P5 f),(24,C3 f.length),(25,C3 j)] [(20,.tarr files.length 1 ((O0 files i).set i (.buf 713 Int 1 F0 (ids++[(names.length:Int)])))),(710,.box [.mut 711,.buf 712 Str 1 P5 (names++[s])]),(711,.map Str i6 (y7 (names++[s]) 0)),(712,.spare (names++[s]).length 1 9),(713,.spare (ids++[(names.length:Int)]).length 1 3)] (by rw [J62 i,H55,hkv];exact Sees.of ⟨le1 rfl,le1 rfl,le1 rfl,le1 rfl,le1 rfl,le1 rfl,le1 rfl,le1 rfl,le1 rfl,trivial⟩ ⟨rfl,rfl,rfl,rfl,rfl,trivial⟩) ?_
    refine A2 (E4 J J J (A3 J J (A4 ?_)));refine k1 ?_
    exact ⟨j+1,hlt2,by omega,by rw [hstep,hnext,hpl];exact Sees.of ⟨le1 rfl,le1 rfl,le1 rfl,le1 rfl,le1 rfl,le1 rfl,le1 rfl,le1 rfl,le1 rfl,trivial⟩ ⟨rfl,rfl,rfl,rfl,rfl,trivial⟩⟩
  ·have hj2:j=f.length:=by have:=A1 ht;omega
   subst hj2
   rw [J67]
   refine k6 (k7 (k7 (k8 J (k4 (k1 (D9 (Sees.forget 713) ?_))))))
   have hfr:((O0 files i).set i (.buf 713 Int 1 F0 (L5 (G9 files) f))).map (TC.forget 713)=O0 files (i+1):=by rw [hf];exact G08 files i 713 hlt
   have hnr:N3 files (i+1) 0=N3 files i f.length:=by rw [hf];exact G93 files i
   refine A29 [(4,.s (.one (.ref 710 0))),(5,.s (.one (.mut 20))),(16,D5 (List Str) 1 strsC files),(17,C3 files.length),(18,C3 i)] [(710,.box [.mut 711,.buf 712 Str 1 P5 (N3 files (i+1) 0)]),(711,.map Str i6 (y7 (N3 files (i+1) 0) 0)),(712,.spare (N3 files (i+1) 0).length 1 9),(20,.tarr files.length 1 (O0 files (i+1)))] (by rw [hnr,←hfr];exact Sees.of ⟨le1 rfl,le1 rfl,le1 rfl,le1 rfl,le1 rfl,trivial⟩ ⟨rfl,rfl,rfl,rfl,trivial⟩) ?_
   refine A2 (E4 J J J (A3 J J (A4 ?_)));refine k1 ?_
   exact ⟨i+1,hlt,by omega,Sees.of ⟨le1 rfl,le1 rfl,le1 rfl,le1 rfl,le1 rfl,trivial⟩ ⟨rfl,rfl,rfl,rfl,trivial⟩⟩
 ·have hi2:i=files.length:=by have:=A1 ht;omega
  rw [hi2,G94]
  refine D9 (J59 20 (c:=intsC) (files.map (L5 (G9 files))) J (by simp) (H81 files)) ?_
  refine D9 (Sees.freeze (k:=20) J) ?_
  refine D9 (Sees.forget 712) ?_
  refine k6 (k2 (F5 (by kernel_rfl) (by kernel_rfl) (F9 J J (F9 J J (B5 (B2 J) J J (B5 (A7 J) J J (B5 (C6 J J J) J J (B5 (J8 J J) J J (B5 (J8 J J) J J (R1 ?_))))))))));refine k1 (k10 ?_)
  exact B7 (l9 rfl rfl rfl rfl rfl) rfl
theorem F89 (files:List (List Str)) (hn:files.length≤1048576) (hl:files.flatten.length≤536870911):FnOk Tryz.prog 43 [pStrss files] (fun rs=>rs=[pIntss (files.map (L5 (G9 files)))]):=by
 refine FnOk.intro Tryz.func43 (by decide) J J J J ?_
 refine k2 (A2 (A6 J J (A4 ?_)));refine k1 (k2 (A2 (A3 J J (D8 (I63 files hn hl) J J J ?_))));rintro _ rfl;refine A3 J J (H5 J J J (H5 J J J (A6 J J (A6 J J (A4 ?_)))));refine k1 (k2 (A2 (A3 J J (A6 J J (A4 ?_)))));refine k1 (k10 ?_)
 exact B7 (I4 rfl rfl rfl) rfl
set_option maxHeartbeats 1000000
theorem A64 {k:Nat} {ob:Obs} {j:Nat} {o:Ob} (h:B4 (Obs.drop k ob) j=some o):B4 ob j=some o∧j≠k:=by
 by_cases e:j=k
 ·subst e
  exfalso
  have:∀ob:Obs,B4 (Obs.drop j ob) j=none:=by
   intro ob
   induction ob with
   | nil=>rfl
   | cons p r ih =>
    obtain ⟨i,x⟩:=p
    unfold Obs.drop
    cases hb:Nat.beq i j
    ·show B4 ((i,x)::Obs.drop j r) j=none
     rw [B9 (fun e=>by rw [e,Nat.beq_refl] at hb;cases hb)];exact ih
    ·exact ih
  rw [this] at h;cases h
 ·rw [A81 e] at h;exact ⟨h,e⟩
theorem J51 {P:Program} {nt:Nat} {fr:Fr} {ob:Obs} {t k:Nat} {ts:List TC} {cs:List Cell} (ht:E6 fr t=some (.s (.one (.ref k 0)))) (hk:B4 ob k=some (.box ts)) (hp:A00 ts=some cs) (hk0:Nat.blt k 1000000=true) :
  Sees P nt fr ob ((t,.s (.one (.eref Unit cs.length (fun _ j=>cs.getD j (.v undef)) () 0)))::fr) (Obs.drop k ob):=by
 unfold Sees
 intro S G a w hn h
 have hk6:k < 1000000:=by simpa using hk0
 obtain ⟨b,vs,tt,hG,hh,hall⟩:=h.box hk
 have hs:Sim P S fr (Obs.drop k ob) G a w:=h.weakenO fun j o hj=>(A64 hj).1
 have hrd:∀b i z,E8 (Mut S ob G) w b i z→E8 (Mut S (Obs.drop k ob) G) w b i z:=fun b i z hz=>⟨hz.1,fun hm=>hz.2 (hm.imp id fun ⟨q,o,hq,ho⟩=>⟨q,o,(A64 hq).1,ho⟩)⟩
 refine ⟨G,{ hs with facts:=fun i s hi=>?_ }⟩
 by_cases he:t=i
 ·subst he
  rw [E1] at hi
  cases hi
  obtain ⟨b',hb',hu⟩:=h.facts t _ ht
  rw [hG] at hb'
  cases hb'
  refine ⟨b,0,by rw [hu],fun j hj=>?_⟩
  have hc:=c6 hp hall
  obtain ⟨z,hz1,hz2⟩:=hc.get j _ (J60 hj)
  refine ⟨z,⟨by rw [Nat.zero_add];exact N4 hh (by simpa using hz1),?_⟩,?_⟩
  ·rintro (hm | ⟨q,o,hq,ho⟩)
   ·have h1:=h.m0 _ _ hm
    rcases h.old k _ b hk (by rw [hG];rfl) with h2 | ⟨_,h2⟩
    ·omega
    ·omega
   ·obtain ⟨h1,h2⟩:=A64 hq
    exact h2 (h.dis q k _ _ b h1 hk ho.1 (by rw [hG];rfl))
  ·show (cs.getD j (.v undef)).rep _ z
   rw [J65,J60 hj]
   exact Cell.rep_mono hrd _ _ hz2
 ·rw [C7 he] at hi
  exact hs.facts i s hi
end Go.Proofs.YtkahafmcmiiolaaGreatDoor
