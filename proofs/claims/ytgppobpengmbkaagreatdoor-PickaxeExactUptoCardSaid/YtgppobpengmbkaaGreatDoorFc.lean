/- Walks of the program's functions. -/
import Derived.Test.YtgppobpengmbkaaGreatDoorFb
import Derived.Test.YtgppobpengmbkaaGreatDoorFa
import Derived.Test.YtgppobpengmbkaaGreatDoorFs
import Derived.RecoverIn
set_option linter.unusedSimpArgs false
namespace Go.Proofs.YtgppobpengmbkaaGreatDoor
open Go Go.AL
set_option maxRecDepth 100000
set_option maxHeartbeats 1000000
theorem E84 {gf:Fr} {ob:Obs} (g:Graph) (l:List Int) (c:Int) (hg:g.length≤1000) (hl:l.length≤1000) (hr:∀x∈l,0≤x∧x < (g.length:Int)) (hc:0≤c∧c < g.length) (h0:B9 ob 740=some (A86 g)) (h1:B9 ob 741=some (S2 l)) :
  AL.Met Tryz.prog 60 [E50,sIf c] gf ob [741] (fun rs ob'=>rs=[]∧ob'=(740,A86 g)::(741,S2 (C61 (R5 g) l c))::Obs.forget 741 ob):=by
 have hr2:∀x∈l++[c],0≤x∧x < (g.length:Int):=fun x hx=>by
  rcases List.mem_append.1 hx with hx | hx
  ·exact hr x hx
  ·rw [List.mem_singleton.1 hx];exact hc
 have hla:(l++[c]).length=l.length+1:=by simp
 have hp:upH (R5 g) (l.length+1) (l++[c]) l.length=C61 (R5 g) l c:=rfl
 refine AL.Met.introH Tryz.func60 (by decide) rfl rfl rfl (fun hH=>?_)
 refine D8 (I92 741 (l:=[(0,.s E50),(1,.s (sIf c))]) (L:=[(740,_),(741,_)]) ⟨le1 rfl,le1 rfl,trivial⟩ hH (by repeat (first | exact B2 | refine B3 rfl ?_)) ⟨h0,h1,trivial⟩) ?_
 refine k2 (A2 (A3 V V (A3 V V (A41 (fun a vs w=>by kernel_rfl) (I06 g l c (by omega) V V) V V V V ?_))));rintro _ _ ⟨rfl,rfl⟩;refine A4 ?_;refine k1 (A2 (A3 V V (A3 V V (A41 (fun a vs w=>by kernel_rfl) (D94 g (l++[c]) V V) V V V V ?_))));rintro _ _ ⟨rfl,rfl⟩;refine A5 (K8 V V (by (rw [hla];omega))) V ?_;refine L1 ((by rw [hla,show (((l.length+1:Nat):Int)) - 1=((l.length:Nat):Int) by omega];exact hUp_met g (l++[c]) l.length (by omega) (by omega) hr2 (by omega) V V)) V V V ?_;rintro _ _ ⟨rfl,rfl⟩;refine A4 ?_
 rw [hp]
 skip
 exact R7 (A63 rfl) (by repeat (first | exact B2 | refine B3 rfl ?_ | refine J7 _ ?_ | refine D1 _ ?_)) (E2 (L:=[(740,_),(741,_)]) ⟨rfl,rfl,trivial⟩ (by repeat (first | exact D5 | refine D6 rfl ?_ | refine P7 _ ?_))) ⟨rfl,rfl⟩
theorem I64 {gf:Fr} {ob:Obs} (g:Graph) (l:List Int) (hg:g.length≤1000) (hl:l.length≤1000) (h2:0 < l.length) (hr:∀x∈l,0≤x∧x < (g.length:Int)) (h0:B9 ob 740=some (A86 g)) (h1:B9 ob 741=some (S2 l)) :
  AL.Met Tryz.prog 62 [E50] gf ob [741] (fun rs ob'=>rs=[sIf (atG (C19 (R5 g) l) (l.length - 1))]∧ob'=(740,A86 g)::(741,S2 ((C19 (R5 g) l).take (l.length - 1)))::Obs.forget 741 ob):=by
 have hsl:=N3 l 0 (l.length - 1)
 have hsr:=D95 (n:=(g.length:Int)) (i:=0) (j:=l.length - 1) h2 (by omega) hr
 have hdn:A14 (R5 g) (l.length - 1) (l.length - 1+1) (Y9 l 0 (l.length - 1)) 0=C19 (R5 g) l:=by unfold C19;rw [show l.length - 1+1=l.length by omega]
 have hpl:(C19 (R5 g) l).length=l.length:=by
  rw [←hdn]
  exact (by
   have key:∀(f i:Nat) (x:List Int),(A14 (R5 g) (l.length - 1) f x i).length=x.length:=by
    intro f
    induction f with
    | zero=>intro i x;rfl
    | succ f ih =>
     intro i x
     rw [A14]
     split
     ·rfl
     ·split
      ·rfl
      ·rw [ih,N3]
   rw [key,N3])
 refine AL.Met.introH Tryz.func62 (by decide) rfl rfl rfl (fun hH=>?_)
 refine D8 (I92 741 (l:=[(0,.s E50)]) (L:=[(740,_),(741,_)]) ⟨le1 rfl,trivial⟩ hH (by repeat (first | exact B2 | refine B3 rfl ?_)) ⟨h0,h1,trivial⟩) ?_
 refine k2 (A2 (A6 V V (A4 ?_)));refine k1 (k2 (A2 (A3 V V (A41 (fun a vs w=>by kernel_rfl) (D94 g l V V) V V V V ?_))));rintro _ _ ⟨rfl,rfl⟩;refine A5 (K8 V V (by omega)) V (A6 V V (A4 ?_))
 rw [show ((l.length:Nat):Int) - 1=((l.length - 1:Nat):Int) by omega]
 refine k1 (k2 (A2 (A3 V V (A3 V V (A41 (fun a vs w=>by kernel_rfl) (C84 g l 0 (l.length - 1) h2 (by omega) V V) V V V V ?_)))));rintro _ _ ⟨rfl,rfl⟩;refine A4 ?_;refine k1 (k2 (A2 (A3 V V (A3 V V (L1 (I07 g (Y9 l 0 (l.length - 1)) (l.length - 1) (by omega) (by omega) hsr (by omega) V V) V V V ?_)))));rintro _ _ ⟨b,rfl,rfl⟩;refine A4 ?_
 rw [hdn]
 refine k1 (k2 (A2 (A3 V V (A41 (fun a vs w=>by kernel_rfl) ((by rw [←hpl];exact I63 g (C19 (R5 g) l) (by omega) (by omega) V V)) V V V V ?_))));rintro _ _ ⟨rfl,rfl⟩;refine A6 V V (A4 ?_)
 rw [hpl]
 refine k1 (k10 ?_)
 exact G5 (K4 rfl rfl) (by repeat (first | exact B2 | refine B3 rfl ?_ | refine J7 _ ?_ | refine D1 _ ?_)) (E2 (L:=[(740,_),(741,_)]) ⟨rfl,rfl,trivial⟩ (by repeat (first | exact D5 | refine D6 rfl ?_ | refine P7 _ ?_))) ⟨rfl,rfl⟩
theorem OInv.ub {g:Graph} {inn:List Bool} {k i:Nat} {ch hp out:List Int} (h:OInv g inn k i ch hp out) (p:Nat) (hp:p < g.length):-1≤atG ch p∧atG ch p≤g.length:=by
 cases ho:K0 inn p
 ·have:=h.off p hp ho;omega
 ·have h1:=h.cnt p hp ho
  have h2:=F62 g inn (out.take k) p
  split at h1<;>omega
theorem I08 (g:Graph) (s:Int) (h:FewT g):FnOk Tryz.prog 34 [I7 g,I5 [s]] (fun rs=>rs=[I5 (P6 g s).1,F2 (P6 g s).2]):=by
 have hg:=h.few.len
 refine FnOk.intro Tryz.func34 (by decide) V V V V ?_
 refine k2 (A2 (A6 V V (A6 V V (A4 ?_))));refine k1 (k2 (k2 (A2 (A3 V V (D3 (H53 g h) V V V ?_)))));rintro _ rfl;refine A6 V V (A4 ?_);refine k1 (k2 (A2 (A3 V V (A5 (Q8 V V) V (A4 ?_)))));refine k1 ?_;refine B0 rfl (fun ht=>?_) (fun ht=>?_)
 ·have h1:J1 g≠0:=A0 ht
  refine k2 (A2 (A3 V V (A5 (I0 _ 1 E3) V (A6 V V (A4 ?_)))));refine k1 (k10 (k11 ?_))
  exact B6 (rs:=[I5 [],F2 (J1 g)]) (X8 rfl rfl rfl rfl rfl) (by unfold P6;rw [if_pos h1])
 have h1:¬J1 g≠0:=A1 ht
 have hvg:=Y7 (Decidable.not_not.1 h1)
 refine k5 (k1 (k2 (k2 (A2 (A3 V V (E0 V V (A3 V V (A4 ?_))))))));refine k1 (k3 (C5 (X:=Nat) (fun i=>([(0,C6 Commit 3 G1 g),(1,C6 Int 1 E3 [s]),(23,C6 Int 1 E3 [s]),(24,C0 1),(25,C0 i)],[])) (fun i=>i≤1∧(i=1→T6 g s)) (fun i=>1 - i) 0 ⟨Nat.zero_le _,fun h=>by cases h⟩ (I90 ⟨le1 rfl,le1 rfl,le1 rfl,le1 rfl,le1 rfl,trivial⟩ trivial) ?_))
 rintro i ⟨hi,hs⟩
 dsimp only at hi hs ⊢
 refine k2 (A2 (E8 V V V (A4 ?_)));refine k1 (k2 ?_);refine B0 rfl (fun ht=>?_) (fun ht=>?_)
 ·have hlt:i=0:=by have h1:=A0 ht;omega
  subst hlt
  have hv:[s][((0:Nat):Int).toNat]?=some s:=rfl
  refine k5 (k1 (k2 (k3 (k2 (A2 (A5 (A9 V (.pure _ _ _ _) V (by omega) hv) V (A5 (A8 V V) V (A6 V V (A4 ?_)))))))));refine k1 (k2 (A2 (A3 V V (A3 V V (D3 (dis_ok g s) V V V ?_)))));rintro _ rfl;refine A5 (U2 V) V (A4 ?_);refine k1 ?_;refine B0 rfl (fun ht=>?_) (fun ht=>?_)
  ·have h2:¬T6 g s:=by simpa using ht
   refine k2 (A2 (A5 (I0 _ 1 E3) V (A6 V V (A4 ?_))));refine k1 (k10 (k12 (k11 (k11 (k12 (k11 ?_))))))
   exact B6 (rs:=[I5 [],F2 5]) (X8 rfl rfl rfl rfl rfl) (by unfold P6;rw [if_neg h1,if_neg h2])
  ·have h2:T6 g s:=by simpa using ht
   refine k5 (k4 (k1 (A2 (D2 V V V (A3 V V (A4 ?_))))));refine k1 ?_
   exact ⟨1,⟨Nat.le_refl _,fun _=>h2⟩,by omega,(I90 ⟨le1 rfl,le1 rfl,le1 rfl,le1 rfl,le1 rfl,trivial⟩ trivial)⟩
 have hi1:i=1:=by have h1:=A1 ht;omega
 have hs:=hs hi1
 have hres:P6 g s=(r7 g [s],0):=by unfold P6;rw [if_neg h1,if_pos hs]
 rw [hres]
 have hsr:∀f∈[s],0≤f∧f < g.length:=fun f hf=>by rw [List.mem_singleton.1 hf];exact hs
 refine k6 (k2 (A2 (A3 V V (A6 V V (A4 ?_)))));refine k1 (k2 (A2 (A3 V V (A3 V V (B26 (F36 g [s] h.few hvg.rel hsr (by simp)) V V V V ?_)))));rintro _ _ ⟨ch,rfl,rfl,hchl,hch⟩;refine ⟨rfl,?_⟩;refine A6 V V (A4 ?_)
 have hcl:=A91 hvg.rel [s] hsr
 obtain ⟨inn,hinn⟩:∃inn,inn=M9 g [s]:=⟨_,rfl⟩
 have hil:inn.length=g.length:=by rw [hinn];exact B44 g _
 have hord:r7 g [s]=B81 g inn (g.length+1) []:=by rw [hinn];rfl
 rw [←hinn] at hch hcl
 rw [hord]
 have hlo:∀p,p < g.length → -1≤atG ch p∧atG ch p≤g.length:=fun p hp=>by
  rw [hch p hp]
  have:=F62 g inn [] p
  split<;>omega
 refine k1 (k2 (A2 (A3 V V (A5 (F85 (cs:=[.list Commit 3 G1 g]) V V) V (A5 (K1 V) V (C9 (x4 740 V V V) V (A6 V V (A4 ?_))))))));refine k1 (k2 (k2 (D8 (I96 741 Int 1 E3 3 (kb:=740) (o:=0) V V V) ?_)))
 refine A2 (A3 V V (A5 (C69 V V) V (A3 V V (A4 ?_))));refine k1 (k3 (C5 (X:=Nat × List Int) (fun x=>([(0,C6 Commit 3 G1 g),(10,.s (.one (.mut 753))),(11,.s (.one (.ref 740 0))),(42,.s (.one (.mut 753))),(43,C0 g.length),(44,C0 x.1)],[(740,A86 g),(741,S2 x.2),(753,D93 ch)])) (fun x=>x.1≤g.length∧HInv g ch x.2 x.1) (fun x=>g.length - x.1) (0,[]) ⟨Nat.zero_le _,HInv.nil g ch⟩ (by rw [←hchl];exact (I90 ⟨le1 rfl,le1 rfl,le1 rfl,le1 rfl,le1 rfl,le1 rfl,trivial⟩ ⟨rfl,rfl,rfl,trivial⟩)) ?_))
 rintro ⟨i,hp⟩ ⟨hi,hI⟩
 dsimp only at hi hI ⊢
 have hpl:=hI.le
 refine k2 (A2 (E8 V V V (A4 ?_)));refine k1 (k2 ?_);refine B0 rfl (fun ht=>?_) (fun ht=>?_)
 ·have hlt:i < g.length:=by have h1:=A0 ht;(try dsimp only at h1);omega
  have hva:=C07 (l:=ch) (p:=(i:Int)) (by omega)
  rw [J17] at hva
  have hN:=hI.step
  have hrg:∀x∈hp,0≤x∧x < (g.length:Int):=fun x hx=>by have:=hI.rng x hx;omega
  refine k5 (k1 (k2 (k3 (k2 (A2 (A3 V V (A5 (F1 V V V (by omega) (by omega)) V (A5 (M1 V V hva V) V (A6 V V (A6 V V (A4 ?_)))))))))));refine k1 (k2 (A2 (A3 V V (A5 (F7 V V) V (A4 ?_)))));refine k1 ?_;refine B0 rfl (fun ht=>?_) (fun ht=>?_)
  ·have h2:atG ch i=0:=A0 ht
   rw [if_pos h2] at hN
   skip
   refine A2 (A3 V V (A5 (A81 V (by kernel_rfl)) V (A3 V V (A5 (C05 V (by kernel_rfl)) V (L1 (E84 g hp i hg (by omega) hrg (by omega) V V) V V V ?_)))));rintro _ _ ⟨rfl,rfl⟩;refine A4 ?_;refine k4 (k1 (A2 (D2 V V V (A3 V V (A4 ?_)))));refine k1 ?_
   exact ⟨(i+1,C61 (R5 g) hp i),⟨hlt,hN⟩,by dsimp only;omega,(I90 ⟨le1 rfl,le1 rfl,le1 rfl,le1 rfl,le1 rfl,le1 rfl,trivial⟩ ⟨rfl,rfl,rfl,trivial⟩)⟩
  ·have h2:¬atG ch i=0:=A1 ht
   rw [if_neg h2] at hN
   refine k5 (k4 (k1 (A2 (D2 V V V (A3 V V (A4 ?_))))));refine k1 ?_
   exact ⟨(i+1,hp),⟨hlt,hN⟩,by dsimp only;omega,(I90 ⟨le1 rfl,le1 rfl,le1 rfl,le1 rfl,le1 rfl,le1 rfl,trivial⟩ ⟨rfl,rfl,rfl,trivial⟩)⟩
 have hie:i=g.length:=by have h1:=A1 ht;(try dsimp only at h1);omega
 rw [hie] at hI
 have hO:=OInv.start hchl hil hch hI
 refine k6 (k2 (A2 (C9 (Q4 14 _ E3 V) V (A4 ?_))));refine k1 (k2 (k3 (C5 (X:=List Int × List Int × List Int) (fun x=>([(0,C6 Commit 3 G1 g),(10,.s (.one (.mut 753))),(11,.s (.one (.ref 740 0))),(14,.s (.one (.buf 14 Int 1 E3 x.2.2)))],[(14,.spare x.2.2.length 1 3),(740,A86 g),(741,S2 x.2.1),(753,D93 x.1)])) (fun x=>OInv g inn x.2.2.length 0 x.1 x.2.1 x.2.2∧B81 g inn (g.length+1 - x.2.2.length) x.2.2=B81 g inn (g.length+1) []) (fun x=>g.length+1 - x.2.2.length) (ch,hp,[]) ⟨hO,rfl⟩ (I90 ⟨le1 rfl,le1 rfl,le1 rfl,le1 rfl,trivial⟩ ⟨rfl,rfl,rfl,rfl,trivial⟩) ?_)))
 rintro ⟨ch,hp,out⟩ ⟨hO,hro⟩
 dsimp only at hO hro ⊢
 obtain ⟨hol,hpl⟩:=hO.le
 have hchl:=hO.len
 refine k2 (k2 (A2 (A3 V V (L1 (D94 g hp V V) V V V ?_))));rintro _ _ ⟨rfl,rfl⟩;refine A5 (M5 V V) V (A4 ?_);refine k1 ?_;refine B0 rfl (fun ht=>?_) (fun ht=>?_)
 rotate_left
 ·have h2:hp=[]:=by
   have h2:=A1 ht
   exact List.length_eq_zero_iff.1 (by omega)
  rw [h2] at hO
  have hb:=hO.fin
  rw [G48 (by omega)] at hro
  rw [←hro]
  refine k6 (k2 (A2 (A3 V V (A6 V V (A6 V V (A4 ?_))))));refine k1 (k10 ?_)
  exact B6 (rs:=[I5 out,F2 0]) (X8 rfl rfl rfl rfl rfl) rfl
 have hp0:0 < hp.length:=by have h2:=A0 ht;omega
 obtain ⟨b1,b2,b3⟩:=hO.pop hp0
 have hm:atG hp 0∈hp:=by rw [O6 hp0];exact J18 hp0
 have hr0:=hO.hpr _ hm
 obtain ⟨c,hc⟩:∃c:Nat,atG hp 0=(c:Int):=⟨(atG hp 0).toNat,by omega⟩
 rw [F01 (by omega) (by omega),b1,hc] at hro
 rw [hc] at b2 b3
 have hcg:c < g.length:=by omega
 obtain ⟨cm,hcm⟩:∃cm,cm=g[c]:=⟨_,rfl⟩
 have hvc:g[((c:Nat):Int).toNat]?=some cm:=by rw [hcm];simp [hcg]
 have hps:D9 g c=cm.Parents:=by rw [S0 hcg,hcm]
 have hpl2:=h.few.pars cm (by rw [hcm];exact J18 hcg)
 obtain ⟨hp1,hhp1⟩:∃hp1,hp1=(C19 (R5 g) hp).take (hp.length - 1):=⟨_,rfl⟩
 refine k5 (k1 (k3 (k2 (A2 (A3 V V (A5 (A81 V (by kernel_rfl)) V (L1 (I64 g hp hg (by omega) hp0 hO.hpr V V) V V V ?_)))))));rintro _ _ ⟨rfl,rfl⟩;refine A5 (D04 V V) V (A6 V V (A4 ?_))
 rw [b3,←hhp1]
 rw [←hhp1] at b2
 refine k1 (k2 (A2 (A3 V V (A3 V V (A5 (C3 (c:=E3) (ys:=[(c:Int)]) (D4 V V V V F9) V V V) V (C9 (I9 V V V (.pure _ _ _ _) (by (simp only [J19,J22];omega)) V) V (A6 V V (A4 ?_))))))));refine k1 (k2 (A2 (A3 V V (A3 V V (A5 (A9 V (.pure _ _ _ _) V (by omega) hvc) V (A5 (B8 V) V (A5 (A8 V V) V (E0 V V (A3 V V (A4 ?_))))))))));refine k1 (k3 (C5 (X:=Nat × List Int × List Int) (fun x=>([(0,C6 Commit 3 G1 g),(10,.s (.one (.mut 753))),(11,.s (.one (.ref 740 0))),(14,.s (.one (.buf 14 Int 1 E3 (out++[(c:Int)])))),(72,C6 Int 1 E3 cm.Parents),(73,C0 cm.Parents.length),(74,C0 x.1)],[(14,.spare (out++[(c:Int)]).length 1 3),(740,A86 g),(741,S2 x.2.2),(753,D93 x.2.1)])) (fun x=>x.1≤cm.Parents.length∧OInv g inn out.length x.1 x.2.1 x.2.2 (out++[(c:Int)])) (fun x=>cm.Parents.length - x.1) (0,ch,hp1) ⟨Nat.zero_le _,b2⟩ (I90 ⟨le1 rfl,le1 rfl,le1 rfl,le1 rfl,le1 rfl,le1 rfl,le1 rfl,trivial⟩ ⟨rfl,rfl,rfl,rfl,trivial⟩) ?_))
 rintro ⟨i,ch,hp⟩ ⟨hi,hO⟩
 dsimp only at hi hO ⊢
 obtain ⟨hol2,hpl⟩:=hO.le
 have hchl:=hO.len
 have hub:=OInv.ub hO
 have hvo:(out++[(c:Int)])[out.length]?=some (c:Int):=by rw [J30 (Nat.le_refl _),J61];rfl
 rw [J20,List.length_singleton] at hol2
 refine k2 (A2 (E8 V V V (A4 ?_)));refine k1 (k2 ?_);refine B0 rfl (fun ht=>?_) (fun ht=>?_)
 rotate_left
 ·have h2:i=cm.Parents.length:=by have h1:=A1 ht;(try dsimp only at h1);omega
  rw [h2,←hps] at hO
  have hN:=hO.next (by simp) hvo
  refine k6 (k7 (k7 (k8 V (k4 (k1 ?_)))));refine ⟨(ch,hp,out++[(c:Int)]),⟨hN,?_⟩,by dsimp only;rw [J20,List.length_singleton];omega,(I90 ⟨le1 rfl,le1 rfl,le1 rfl,le1 rfl,trivial⟩ ⟨rfl,rfl,rfl,rfl,trivial⟩)⟩
  dsimp only
  rw [←hro,J20,List.length_singleton]
  congr 1<;>omega
 have hilt:i < cm.Parents.length:=by have h1:=A0 ht;(try dsimp only at h1);omega
 have hpb:=(J0 hvg.rel c).1 cm.Parents[i] (by rw [hps];exact J18 hilt)
 obtain ⟨p,hpe⟩:∃p:Nat,cm.Parents[i]=(p:Int):=⟨cm.Parents[i].toNat,by omega⟩
 have hvp:cm.Parents[i]?=some (p:Int):=by rw [J15 hilt,hpe]
 obtain ⟨s1,s2,s3,s4,s5⟩:=hO.step hvg.rel hcl (by simp) hvo (i:=i) (p:=p) (by rw [hps];exact hilt) (by simp only [hps];exact hpe)
 have hva:=C07 (l:=ch) (p:=(p:Int)) (by omega)
 have hva2:(V3 ch p)[((p:Nat):Int).toNat]?=some (atG ch p - 1):=by
  unfold V3
  rw [J17,List.getElem?_set_self (by omega)]
 have hdl:(V3 ch p).length=g.length:=by unfold V3;rw [J41,hchl]
 have hset:ch.set ((p:Nat):Int).toNat (atG ch ((p:Nat):Int).toNat - 1)=V3 ch p:=rfl
 refine k5 (k1 (k2 (k3 (k2 (A2 (A5 (A9 V (.pure _ _ _ _) V (by omega) hvp) V (A5 (A8 V V) V (A6 V V (A4 ?_)))))))));refine k1 (k2 (A2 (A3 V V (A3 V V (A5 (F1 V V V (by omega) (by (rw [hchl];omega))) V ?_)))));refine A5 (M1 V V hva V) V (A5 (K8 V V (by (rw [J17];omega))) V ?_);refine A5 (F1 V V V (by omega) (by (rw [hchl];omega))) V ?_;refine G8 (I1 TySz.out V V (by (rw [hchl];omega)) V V) ?_;refine A4 ?_
 rw [hset]
 refine k1 (k2 (A2 (A3 V V (A3 V V (A5 (F1 V V V (by omega) (by (rw [hdl];omega))) V ?_)))));refine A5 (M1 V V hva2 V) V (A5 (F7 V V) V (A4 ?_));refine k1 ?_;refine B0 rfl (fun ht=>?_) (fun ht=>?_)
 ·have h2:atG ch p - 1=0:=A0 ht
  rw [if_pos h2] at s5
  skip
  refine A2 (A3 V V (A5 (A81 V (by kernel_rfl)) V (A3 V V (A5 (C05 V (by kernel_rfl)) V (L1 (E84 g hp p hg (by omega) hO.hpr (by omega) V V) V V V ?_)))));rintro _ _ ⟨rfl,rfl⟩;refine A4 ?_;refine k4 (k1 (A2 (D2 V V V (A3 V V (A4 ?_)))));refine k1 ?_
  exact ⟨(i+1,V3 ch p,C61 (R5 g) hp p),⟨hilt,s5⟩,by dsimp only;omega,(I90 ⟨le1 rfl,le1 rfl,le1 rfl,le1 rfl,le1 rfl,le1 rfl,le1 rfl,trivial⟩ ⟨rfl,rfl,rfl,rfl,trivial⟩)⟩
 ·have h2:¬atG ch p - 1=0:=A1 ht
  rw [if_neg h2] at s5
  refine k5 (k4 (k1 (A2 (D2 V V V (A3 V V (A4 ?_))))));refine k1 ?_
  exact ⟨(i+1,V3 ch p,hp),⟨hilt,s5⟩,by dsimp only;omega,(I90 ⟨le1 rfl,le1 rfl,le1 rfl,le1 rfl,le1 rfl,le1 rfl,le1 rfl,trivial⟩ ⟨rfl,rfl,rfl,rfl,trivial⟩)⟩
set_option maxHeartbeats 1000000
abbrev isS (l:List Int):S1:=.one (.p (.list Int 1 E3 l))
theorem I65 (f:Str × Str→Bool) (g:Graph) (c:Nat):(O7 g c).flatten.any f=Z4 f g c:=by
 unfold Z4
 rw [List.any_flatten]
theorem D14 (g:Graph) (s:Int) (f:FuncId) (α:Type) (ec:Nat) (cc:α→Nat→Cell) (v:α) (pr:Str × Str→Bool) (h:FewT g) (hs6:Short g)
  (hf:Valid g→∀c:Nat,c < g.length→∀x∈(O7 g c).flatten,AL.Met Tryz.prog f [G16 x,.one (.eref α ec cc v 0)] [] [] [] (fun rs ob'=>rs=[B07 (pr x)]∧ob'=[])) :
  AL.Met Tryz.prog 20 [.one (.p (.list Commit 3 G1 g)),N0 s,.one (.fncE f α ec cc v)] [] [] [] (fun rs ob'=>rs=[isS (W8 pr g s).1,N0 (W8 pr g s).2]∧ob'=[]):=by
 refine AL.Met.intro Tryz.func20 (by decide) V V V ?_
 refine k2 (A2 (A6 V V (A6 V V (A4 ?_))));refine k1 (k2 (A2 (A3 V V (A3 V V (A5 (C3 (c:=E3) (ys:=[s]) (D4 V V V V F9) V V V) V (D3 (I08 g s h) V V V ?_))))));rintro _ rfl;refine A3 V V (H6 V V V (H6 V V V (A6 V V (A6 V V (A4 ?_)))));refine k1 (k2 (k2 (A2 (A3 V V (A5 (Q8 V V) V (A4 ?_))))));refine k1 ?_;refine B0 rfl (fun ht=>?_) (fun ht=>?_)
 ·have h3:(P6 g s).2≠0:=A0 ht
  refine k2 (A2 (A3 V V (A5 (I0 _ 1 E3) V (A6 V V (A4 ?_)))));refine k1 (k10 (k11 ?_))
  exact G5 (RetOk.s2 (X8 rfl rfl rfl rfl rfl)) (by repeat (first | exact B2 | refine B3 rfl ?_ | refine D1 _ ?_)) (ObIn.spec (ob':=[]) trivial) ⟨by unfold W8;rw [if_pos h3],rfl⟩
 have h3:¬(P6 g s).2≠0:=A1 ht
 obtain ⟨hv,hrg,hnd⟩:Valid g∧(∀x∈(P6 g s).1,0≤x∧x < (g.length:Int))∧(P6 g s).1.Nodup:=by
  unfold P6 at h3 ⊢
  split at h3
  ·rename_i hd;exact absurd hd h3
  ·rename_i hd
   rw [if_neg hd]
   have:=Y7 (Decidable.not_not.1 hd)
   split
   ·exact ⟨this,(B53 g [s]).2,(B53 g [s]).1⟩
   ·exact ⟨this,(fun _ h=>by cases h),List.nodup_nil⟩
 have hres2:W8 pr g s=((P6 g s).1.filter fun c=>Z4 pr g c.toNat,0):=by unfold W8;rw [if_neg h3]
 rw [hres2]
 obtain ⟨O,hO⟩:∃O,O=(P6 g s).1:=⟨_,rfl⟩
 rw [←hO] at hrg hnd ⊢
 have hOl:=Y6 hnd hrg
 have hg:=h.few.len
 refine k5 (k1 (k2 (A2 (C9 (Q4 10 _ E3 V) V (A4 ?_)))));refine k1 (k2 (k2 (A2 (A3 V V (E0 V V (A3 V V (A4 ?_)))))));refine k1 (k3 (C5 (X:=Nat) (fun k=>([(0,C6 Commit 3 G1 g),(2,.s (.one (.fncE f α ec cc v))),(10,.s (.one (.buf 10 Int 1 E3 ((O.take k).filter fun c=>Z4 pr g c.toNat)))),(23,C6 Int 1 E3 O),(24,C0 O.length),(25,C0 k)],[(10,.spare ((O.take k).filter fun c=>Z4 pr g c.toNat).length 1 3)])) (fun k=>k≤O.length) (fun k=>O.length - k) 0 (Nat.zero_le _) (I90 ⟨le1 rfl,le1 rfl,le1 rfl,le1 rfl,le1 rfl,le1 rfl,trivial⟩ ⟨rfl,trivial⟩) ?_))
 intro k hk
 dsimp only at hk ⊢
 have hfl:=List.length_filter_le (fun c:Int=>Z4 pr g c.toNat) (O.take k)
 rw [J25] at hfl
 refine k2 (A2 (E8 V V V (A4 ?_)));refine k1 (k2 ?_);refine B0 rfl (fun ht=>?_) (fun ht=>?_)
 rotate_left
 ·have hke:k=O.length:=by have h1:=A1 ht;(try dsimp only at h1);omega
  rw [hke,J23]
  refine k6 (k2 (A2 (A3 V V (A6 V V (A6 V V (A4 ?_))))));refine k1 (k10 ?_)
  exact G5 (RetOk.s2 (X8 rfl rfl rfl rfl rfl)) (by repeat (first | exact B2 | refine B3 rfl ?_ | refine D1 _ ?_)) (ObIn.spec (ob':=[]) trivial) ⟨rfl,rfl⟩
 have hklt:k < O.length:=by have h1:=A0 ht;(try dsimp only at h1);omega
 have hcr:=hrg _ (J18 hklt)
 obtain ⟨c,hc⟩:∃c:Nat,O[k]=(c:Int):=⟨O[k].toNat,by omega⟩
 have hvk:O[k]?=some (c:Int):=by rw [J15 hklt,hc]
 have hsn:(O.take (k+1)).filter (fun c=>Z4 pr g c.toNat)=((O.take k).filter fun c=>Z4 pr g c.toNat)++(if Z4 pr g c=true then [(c:Int)] else []):=by
  rw [List.take_add_one,hvk,Option.toList_some,J67]
  congr 1
  rw [J66,J17];rfl
 obtain ⟨F,hF⟩:∃F,F=(O.take k).filter fun c=>Z4 pr g c.toNat:=⟨_,rfl⟩
 rw [←hF] at hfl hsn ⊢
 have hB:=C81 h hv c
 have hfl2:=A85 hB (O7 g c).length
 unfold l7 at hfl2
 rw [J23] at hfl2
 have hfx:=hf hv c (by omega)
 have hap:=I65 pr g c
 refine k5 (k1 (k2 (k3 (k2 (A2 (A5 (A9 V (.pure _ _ _ _) V (by omega) hvk) V (A5 (A8 V V) V (A6 V V (A4 ?_)))))))));refine k1 (k2 (A2 (A3 V V (A3 V V (D3 (E81 g c h hv hs6 (by omega)) V V V ?_)))));rintro _ rfl;refine D3 (E49 (O7 g c) hB) V V V ?_;rintro _ rfl;refine A3 V V (B26 (C82 f α ec cc v pr (O7 g c).flatten (by omega) hfx) V V V V ?_);rintro _ _ ⟨rfl,rfl⟩;refine ⟨rfl,?_⟩;refine A4 ?_
 rw [hap]
 refine k1 ?_;refine B0 rfl (fun ht=>?_) (fun ht=>?_)
 ·rw [if_pos ht] at hsn
  skip
  refine A2 (A3 V V (A3 V V (A5 (C3 (c:=E3) (ys:=[(c:Int)]) (D4 V V V V F9) V V V) V (C9 (I9 V V V (.pure _ _ _ _) (by (simp only [J19,J22];omega)) V) V (A6 V V (A4 ?_))))));refine k4 (k1 (A2 (D2 V V V (A3 V V (A4 ?_)))));refine k1 ?_;refine ⟨k+1,by omega,by omega,?_⟩
  rw [hsn]
  exact (I90 ⟨le1 rfl,le1 rfl,le1 rfl,le1 rfl,le1 rfl,le1 rfl,trivial⟩ ⟨rfl,trivial⟩)
 ·rw [ht,if_neg (by decide),J47] at hsn
  refine k5 (k4 (k1 (A2 (D2 V V V (A3 V V (A4 ?_))))));refine k1 ?_;refine ⟨k+1,by omega,by omega,?_⟩
  rw [hsn]
  exact (I90 ⟨le1 rfl,le1 rfl,le1 rfl,le1 rfl,le1 rfl,le1 rfl,trivial⟩ ⟨rfl,trivial⟩)
theorem D15 (g:Graph) (s:Int) (nd:Str) (h:FewT g) (hs6:Short g) (hn:nd.length≤1073741824):FnOk Tryz.prog 8 [I7 g,F2 s,M3 nd] (fun rs=>rs=[I5 (Z5 g s nd).1,F2 (Z5 g s nd).2]):=by
 refine FnOk.intro Tryz.func8 (by decide) V V V V ?_
 refine k2 (A2 (A5 (n_boxE V V) V (A5 (I0 _ 1 E3) V (A6 V V (A4 ?_)))));refine k1 (k2 (k3 (k2 (A2 (A5 (A8 V V) V (A5 (j7 V V) V (A6 V V (A4 ?_))))))));refine k1 ?_;refine B0 rfl (fun ht=>?_) (fun ht=>?_)
 ·have h1:nd=[]:=A0 ht
  refine k2 (A2 (A5 (I0 _ 1 E3) V (A6 V V (A4 ?_))));refine k1 (k10 (k12 (k11 ?_)))
  exact B6 (rs:=[I5 [],F2 2]) (X8 rfl rfl rfl rfl rfl) (by unfold Z5;rw [if_pos h1])
 have h1:¬nd=[]:=A1 ht
 refine k2 (A2 (A5 (A8 V V) V (A5 (J3 V) V (A5 (M5 V V) V (A6 V V (A4 ?_))))));refine k1 ?_;refine B0 rfl (fun ht=>?_) (fun ht=>?_)
 ·have h2:(256:Int) < nd.length:=A0 ht
  refine k2 (A2 (A5 (I0 _ 1 E3) V (A6 V V (A4 ?_))));refine k1 (k10 (k12 (k11 ?_)))
  exact B6 (rs:=[I5 [],F2 1]) (X8 rfl rfl rfl rfl rfl) (by unfold Z5;rw [if_neg h1,if_pos (by omega)])
 have h2:¬(256:Int) < nd.length:=A1 ht
 have hres:Z5 g s nd=W8 (differs nd) g s:=by unfold Z5;rw [if_neg h1,if_neg (by omega)]
 rw [hres]
 refine k5 (k2 (A2 (A3 V V (A3 V V (A5 (D05 V) V ?_)))))
 refine B26 (D14 g s 21 Unit 1 (cE nd) () (differs nd) h hs6 (fun hv c hc x hx=>by
  obtain ⟨l,hl,hxl⟩:=List.mem_flatten.1 hx
  have hb:=(C81 h hv c).strs l hl x hxl
  exact I62 nd x hn hb.1 hb.2)) rfl rfl rfl rfl ?_
 rintro _ _ ⟨rfl,rfl⟩;refine ⟨rfl,?_⟩;refine H6 V V V (H6 V V V (A6 V V (A6 V V (A4 ?_))))
 refine k1 (k10 ?_)
 exact B6 (rs:=[I5 (W8 (differs nd) g s).1,F2 (W8 (differs nd) g s).2]) (X8 rfl rfl rfl rfl rfl) rfl
theorem G90 (g:Graph) (c:Int) (nd:Str) (h:FewT g) (hs6:Short g) (hn:nd.length≤1073741824):FnOk Tryz.prog 18 [I7 g,F2 c,M3 nd] (fun rs=>rs=[I5 (p6 g c nd).1,F2 (p6 g c nd).2]):=by
 refine FnOk.intro Tryz.func18 (by decide) V V V V ?_
 refine k2 (A2 (A6 V V (A6 V V (A4 ?_))));refine k1 (k2 (k2 (A2 (A3 V V (A3 V V (D3 (I04 g c h hs6) V V V ?_))))));rintro _ ⟨_,rfl⟩;refine A3 V V (H6 V V V (H6 V V V (A6 V V (A6 V V (A4 ?_)))));refine k1 (k2 (A2 (A3 V V (A5 (Q8 V V) V (A4 ?_)))));refine k1 ?_;refine B0 rfl (fun ht=>?_) (fun ht=>?_)
 ·have h1:i6 g c≠0:=A0 ht
  refine k2 (A2 (A3 V V (A5 (I0 _ 1 E3) V (A6 V V (A4 ?_)))));refine k1 (k10 (k11 ?_))
  exact B6 (rs:=[I5 [],F2 (i6 g c)]) (X8 rfl rfl rfl rfl rfl) (by unfold p6;rw [if_pos h1])
 have h1:¬i6 g c≠0:=A1 ht
 obtain ⟨hv,hc0,hc1⟩:=D11 (Decidable.not_not.1 h1)
 obtain ⟨k,rfl⟩:∃k:Nat,c=(k:Int):=⟨c.toNat,by omega⟩
 have hres:p6 g (k:Int) nd=((O7 g k).map (Z0 nd),0):=by unfold p6;rw [if_neg h1,J17]
 rw [hres]
 have hB:=C81 h hv k
 refine k5 (k1 (k2 (A2 (C9 (Q4 10 _ E3 V) V (A4 ?_)))));refine k1 (k2 (k2 (A2 (A3 V V (A3 V V (D3 (E81 g k h hv hs6 (by omega)) V V V ?_))))));rintro _ rfl;refine E0 V V (A3 V V (A4 ?_))
 obtain ⟨B,hBd⟩:∃B,B=O7 g k:=⟨_,rfl⟩
 rw [←hBd] at hB ⊢
 have hBl:=hB.len
 refine k1 (k3 (C5 (X:=Nat) (fun p=>([(2,T7 nd),(10,.s (.one (.buf 10 Int 1 E3 ((B.take p).map (Z0 nd))))),(27,C6 (List (Str × Str)) 1 A55 B),(28,C0 B.length),(29,C0 p)],[(10,.spare ((B.take p).map (Z0 nd)).length 1 3)])) (fun p=>p≤B.length) (fun p=>B.length - p) 0 (Nat.zero_le _) (I90 ⟨le1 rfl,le1 rfl,le1 rfl,le1 rfl,le1 rfl,trivial⟩ ⟨rfl,trivial⟩) ?_))
 intro p hp
 dsimp only at hp ⊢
 have hml:((B.take p).map (Z0 nd)).length≤33:=by rw [J38,J25];omega
 refine k2 (A2 (E8 V V V (A4 ?_)));refine k1 (k2 ?_);refine B0 rfl (fun ht=>?_) (fun ht=>?_)
 rotate_left
 ·have hpe:p=B.length:=by have h1:=A1 ht;(try dsimp only at h1);omega
  rw [hpe,J23]
  refine k6 (k2 (A2 (A3 V V (A6 V V (A6 V V (A4 ?_))))));refine k1 (k10 ?_)
  exact B6 (rs:=[I5 (B.map (Z0 nd)),F2 0]) (X8 rfl rfl rfl rfl rfl) rfl
 have hplt:p < B.length:=by have h1:=A0 ht;(try dsimp only at h1);omega
 have hs:=G15 (nd:=nd) hplt
 obtain ⟨l,hl⟩:∃l,l=B[p]:=⟨_,rfl⟩
 have hvl:B[p]?=some l:=by rw [hl];simp [hplt]
 have hlm:l∈B:=by rw [hl];exact J18 hplt
 have hll:=hB.lens l hlm
 rw [←hl] at hs
 obtain ⟨S,hS⟩:∃S,S=(B.take p).map (Z0 nd):=⟨_,rfl⟩
 rw [←hS] at hs hml ⊢
 refine k5 (k1 (k2 (k3 (k2 (A2 (A5 (A9 V (.pure _ _ _ _) V (by omega) hvl) V (A5 (A8 V V) V (A6 V V (A4 ?_)))))))));refine k1 (k2 (A2 (A6 V V (A4 ?_))));refine k1 (k2 (k2 (A2 (A3 V V (E0 V V (A3 V V (A4 ?_)))))));refine k1 (k3 (C5 (X:=Nat) (fun i=>([(2,T7 nd),(10,.s (.one (.buf 10 Int 1 E3 S))),(13,C0 (Z0 nd (l.take i))),(27,C6 (List (Str × Str)) 1 A55 B),(28,C0 B.length),(29,C0 p),(33,C6 (Str × Str) 2 A16 l),(34,C0 l.length),(35,C0 i)],[(10,.spare S.length 1 3)])) (fun i=>i≤l.length) (fun i=>l.length - i) 0 (Nat.zero_le _) (I90 ⟨le1 rfl,le1 rfl,le1 rfl,le1 rfl,le1 rfl,le1 rfl,le1 rfl,le1 rfl,le1 rfl,trivial⟩ ⟨rfl,trivial⟩) ?_))
 intro i hi
 dsimp only at hi ⊢
 refine k2 (A2 (E8 V V V (A4 ?_)));refine k1 (k2 ?_);refine B0 rfl (fun ht=>?_) (fun ht=>?_)
 ·have hilt:i < l.length:=by have h1:=A0 ht;(try dsimp only at h1);omega
  have hs2:=I61 (nd:=nd) hilt
  obtain ⟨x,hx⟩:∃x,x=l[i]:=⟨_,rfl⟩
  have hvx:l[i]?=some x:=by rw [hx];simp [hilt]
  have hxs:=hB.strs l hlm x (by rw [hx];exact J18 hilt)
  rw [←hx] at hs2
  have hsb:=D91 (nd:=nd) (l:=l.take i) fun y hy=>hB.strs l hlm y (List.mem_of_mem_take hy)
  rw [J25] at hsb
  have hc1:=C38 nd x.1 hxs.1
  have hc2:=C38 nd x.2 hxs.2
  obtain ⟨s0,hs0⟩:∃s0,s0=Z0 nd (l.take i):=⟨_,rfl⟩
  obtain ⟨u1,hu1⟩:∃u1,u1=X5 nd x.1:=⟨_,rfl⟩
  obtain ⟨u2,hu2⟩:∃u2,u2=X5 nd x.2:=⟨_,rfl⟩
  have hmin:min i l.length≤400:=by omega
  have hsb1:-6710887200≤s0∧s0≤6710887200:=by rw [hs0];omega
  rw [←hu1] at hc1
  rw [←hu2] at hc2
  rw [←hs0,←hu1,←hu2] at hs2
  rw [←hs0]
  clear hsb
  have hr1:=B63 nd x.1 hn hxs.1
  have hr2:=B63 nd x.2 hn hxs.2
  rw [←hu1] at hr1
  rw [←hu2] at hr2
  refine k5 (k1 (k2 (k3 (k2 (A2 (A5 (A9 V (.pure _ _ _ _) V (by omega) hvx) V (A5 (D7 V V) V (C9 (J4 15 V) V (G8 (C1 TySz.out V V V V V V) (A4 ?_))))))))));refine k1 (E6 (by kernel_rfl) (by kernel_rfl) (E5 V V (E5 V V (B5 (K6 V V (by first | omega | decide) (by omega)) V V (B5 (C4 V V V) V V (B5 (N4 (hr2) V V) V V (E5 V V (B5 (K6 V V (by first | omega | decide) (by omega)) V V (B5 (C4 V V V) V V (B5 (N4 (hr1) V V) V V (B5 (K8 V V (by omega)) V V (B5 (Z9 V V (by omega)) V V (B5 (I3 V V) V V (P0 ?_))))))))))))));refine k4 (k1 (A2 (D2 V V V (A3 V V (A4 ?_)))));refine k1 ?_;refine ⟨i+1,by omega,by omega,?_⟩
  rw [hs2]
  exact (I90 ⟨le1 rfl,le1 rfl,le1 rfl,le1 rfl,le1 rfl,le1 rfl,le1 rfl,le1 rfl,le1 rfl,trivial⟩ ⟨rfl,trivial⟩)
 ·have hie:i=l.length:=by have h1:=A1 ht;(try dsimp only at h1);omega
  rw [hie,J23]
  refine k6 (k7 (k7 (k8 V (k1 (A2 (A3 V V (A3 V V (A5 (C3 (c:=E3) (ys:=[Z0 nd l]) (D4 V V V V F9) V V V) V (C9 (I9 V V V (.pure _ _ _ _) (by (simp only [J19,J22];omega)) V) V (A6 V V (A4 ?_)))))))))));refine k4 (k1 (A2 (D2 V V V (A3 V V (A4 ?_)))));refine k1 ?_;refine ⟨p+1,by omega,by omega,?_⟩
  rw [hs]
  exact (I90 ⟨le1 rfl,le1 rfl,le1 rfl,le1 rfl,le1 rfl,trivial⟩ ⟨rfl,trivial⟩)
set_option maxHeartbeats 1000000
structure GF (B:Nat) (l:List File):Prop where
 len:l.length≤4
 all:∀f∈l,f.Path.length≤3∧f.Blob.length≤B
theorem GF.few {B:Nat} {l:List File} (h:GF B l) (hB:B≤16777216):FewF l :=
 ⟨by have:=h.len;omega,fun f hf=>by have:=(h.all f hf).1;omega,fun f hf=>by have:=(h.all f hf).2;omega⟩
theorem GF.mono {B B':Nat} {l:List File} (h:GF B l) (hB:B≤B'):GF B' l:=⟨h.len,fun f hf=>⟨(h.all f hf).1,by have:=(h.all f hf).2;omega⟩⟩
theorem name4 (i:Nat) (h:i < 4):∃nm:Str,names4[((i:Nat):Int).toNat]?=some nm∧nm.length≤3:=by
 rw [J17]
 match i,h with
 | 0,_=>exact ⟨_,rfl,by decide⟩
 | 1,_=>exact ⟨_,rfl,by decide⟩
 | 2,_=>exact ⟨_,rfl,by decide⟩
 | 3,_=>exact ⟨_,rfl,by decide⟩
theorem G91 (blob:Str) (raw:List Int) (k:Int):(A83 blob raw k).length≤5*blob.length:=by
 have h1:=A84 raw k (K3 blob) 0 []
 have h2:=B41 blob
 rw [w8] at h1
 unfold A83
 simp only [J22] at h1
 omega
theorem I09 (k:Int):(o7 k).count 10=0:=by
 have h:∀s∈lineTab,s.count 10=0:=by decide
 have hr:=a8 k (n:=10) (by omega)
 have hlt:(Y2 k 10).toNat < lineTab.length:=by show _ < 10;omega
 unfold o7
 rw [J21,J15 hlt]
 exact h _ (J18 hlt)
theorem A87 (raw:List Int) (k:Int):∀(l:List Str) (i:Nat) (s:Str),(l6 raw k i s l).count 10≤s.count 10+l.flatten.count 10+l.length
 | [],i,s=>by simp [l6]
 | x::r,i,s=>by
  have h1:=A87 raw k r (i+1) s
  have h2:=A87 raw k r (i+1) (s++o7 (Y3 raw (k+40+(i:Int)))++[10]++x)
  have h3:=A87 raw k r (i+1) (s++x)
  have h4:=I09 (Y3 raw (k+40+(i:Int)))
  have h5:List.count (10:UInt8) [10]=1:=by decide
  simp only [List.count_append,h4,h5,J57,J19] at *
  unfold l6
  split
  ·omega
  split
  ·omega
  ·omega
theorem G92 (blob:Str) (raw:List Int) (k:Int):(A83 blob raw k).count 10≤2*blob.count 10+1:=by
 have h1:=A87 raw k (K3 blob) 0 []
 have h2:=A53 blob
 rw [w8] at h1
 unfold A83
 simp only [List.count_nil] at h1
 split at h2<;>omega
theorem C39 {α:Type} {l:List α} {i:Nat} {x:α} (h:l[i]?=some x):l.take (i+1)=l.take i++[x]:=by rw [List.take_add_one,h];rfl
theorem E85 (raw:List Int) (k lines:Int) (h0:0≤k∧k≤1000000) (h1:0≤lines∧lines≤16):FnOk Tryz.prog 14 [I5 raw,F2 k,F2 lines] (fun rs=>∃l,rs=[T9 l]∧GF 64 l∧GN 64 l):=by
 refine FnOk.intro Tryz.func14 (by decide) V V V V ?_
 refine k2 (A2 (A6 V V (A4 ?_)));refine k1 (k2 (A2 (A5 (C3 (c:=Q0) (ys:=names4) (D4 V V V V (D4 V V V V (D4 V V V V (D4 V V V V F9)))) V V V) V (A6 V V (A4 ?_)))));refine k1 (k2 (A2 (C9 (Q4 8 _ R9 V) V (A4 ?_))));refine k1 (k2 (k2 (A2 (A6 V V (A4 ?_)))));refine k1 (k3 (C5 (X:=Nat × List File) (fun x=>([(0,C6 Int 1 E3 raw),(1,C0 k),(2,C0 lines),(7,C6 Str 1 Q0 names4),(8,.s (.one (.buf 8 File 2 R9 x.2))),(9,C0 x.1)],[(8,.spare x.2.length 2 47)])) (fun x=>x.1≤4∧x.2.length≤x.1∧(∀f∈x.2,f.Path.length≤3∧f.Blob.length≤64)∧(x.2.map (·.Path)).Sublist (names4.take x.1)) (fun x=>4 - x.1) (0,[]) ⟨Nat.zero_le _,Nat.le_refl _,(fun _ h=>by cases h),List.Sublist.refl []⟩ (I90 ⟨le1 rfl,le1 rfl,le1 rfl,le1 rfl,le1 rfl,le1 rfl,trivial⟩ ⟨rfl,trivial⟩) ?_))
 rintro ⟨i,out⟩ ⟨hi,hol,hall,hsub⟩
 dsimp only at hi hol hall hsub ⊢
 refine k2 (k2 (A2 (A3 V V (E8 V V V (A4 ?_)))));refine k1 ?_;refine B0 rfl (fun ht=>?_) (fun ht=>?_)
 rotate_left
 ·refine k6 (k2 (A2 (A3 V V (A6 V V (A4 ?_)))));refine k1 (k10 ?_)
  exact B6 (rs:=[T9 out]) (G7 rfl rfl rfl) ⟨out,rfl,⟨by omega,hall⟩,hsub.trans (List.take_sublist _ _),fun f hf=>Nat.le_trans List.count_le_length (hall f hf).2⟩
 have hlt:i < 4:=by have h1:=A0 ht;(try dsimp only at h1);omega
 obtain ⟨nm,hnm,hnl⟩:=name4 i hlt
 have htk:names4.take (i+1)=names4.take i++[nm]:=C39 (by rw [←hnm,J17])
 refine k5 (k1 (k2 (k3 (k2 (A2 (A3 V V (A3 V V (A3 V V (D2 V V V (D3 (A10 raw (k+(i:Int)) (by omega) (by omega)) V V V ?_))))))))));rintro _ rfl;refine A5 (A59 V V (by omega)) V (A5 (M5 V V) V (A4 ?_));refine k1 ?_;refine B0 rfl (fun ht=>?_) (fun ht=>?_)
 ·have hbl:=G73 raw (k+10+20*(i:Int)) lines 4 h1.1
  skip
  refine E6 (by kernel_rfl) (by kernel_rfl) (E5 V V (E5 V V (E5 V V (B5 (A9 V (.pure _ _ _ _) V (by omega) hnm) V V (B5 (A8 V V) V V (E5 V V (E5 V V (B5 (Z9 V V (by omega)) V V (E5 V V (B5 (A58 V V (by omega)) V V (B5 (Z9 V V (by omega)) V V (E5 V V (B5 (N4 (blob_ok raw (k+10+20*(i:Int)) lines 4 (by omega) (by omega) (by omega)) V V) V V (B5 (K1 V) V V (B5 (C3 (c:=R9) (ys:=[⟨nm,C08 raw (k+10+20*(i:Int)) lines 4⟩]) (D4 V V V V F9) V V V) V V (G62 (I9 V V V (.pure _ _ _ _) (by (simp only [J19,J22];omega)) V) V V (B5 (I3 V V) V V (P0 ?_))))))))))))))))));refine k4 (k1 (A2 (A3 V V (D2 V V V (A6 V V (A4 ?_))))));refine k1 ?_;refine ⟨(i+1,out++[⟨nm,C08 raw (k+10+20*(i:Int)) lines 4⟩]),⟨hlt,by rw [J20,List.length_singleton];omega,fun f hf=>?_,by dsimp only;rw [htk,J42];exact hsub.append (List.Sublist.refl _)⟩,by dsimp only;omega,(I90 ⟨le1 rfl,le1 rfl,le1 rfl,le1 rfl,le1 rfl,le1 rfl,trivial⟩ ⟨rfl,trivial⟩)⟩
  rcases List.mem_append.1 hf with hf | hf
  ·exact hall f hf
  ·rw [List.mem_singleton.1 hf];exact ⟨hnl,by dsimp only;omega⟩
 ·refine k5 (k4 (k1 (A2 (A3 V V (D2 V V V (A6 V V (A4 ?_)))))));refine k1 ?_
  exact ⟨(i+1,out),⟨hlt,by dsimp only;omega,hall,by dsimp only;rw [htk];exact hsub.trans (List.sublist_append_left _ _)⟩,by dsimp only;omega,(I90 ⟨le1 rfl,le1 rfl,le1 rfl,le1 rfl,le1 rfl,le1 rfl,trivial⟩ ⟨rfl,trivial⟩)⟩
theorem G93 (l:List File) (raw:List Int) (k lines:Int) (B L:Nat) (hl:GF B l) (hN:GN L l) (hL:32≤L) (hB:B≤3000000) (h0:0≤k∧k≤1000000) (h1:0≤lines∧lines≤16):FnOk Tryz.prog 15 [T9 l,I5 raw,F2 k,F2 lines] (fun rs=>∃l',rs=[T9 l']∧GF (5*B+64) l'∧GN (2*L+1) l'):=by
 have hll:=hl.len
 refine FnOk.intro Tryz.func15 (by decide) V V V V ?_
 refine k2 (A2 (A6 V V (A4 ?_)));refine k1 (k2 (A2 (C9 (Q4 9 _ R9 V) V (A4 ?_))));refine k1 (k2 (A2 (A3 V V (A3 V V (D2 V V V (D3 (A10 raw (k+3) (by omega) (by omega)) V V V ?_))))));rintro _ rfl;refine D3 (B28 (Y3 raw (k+3)) 4 (by omega) (by omega)) V V V ?_;rintro _ rfl;refine A6 V V (A4 ?_)
 obtain ⟨m,hm⟩:∃m,m=Y2 (Y3 raw (k+3)) 4:=⟨_,rfl⟩
 rw [←hm]
 refine k1 (k2 (k2 (A2 (A6 V V (A4 ?_)))));refine k1 (k3 (C5 (X:=Nat × List File) (fun x=>([(0,C6 File 2 R9 l),(1,C6 Int 1 E3 raw),(2,C0 k),(3,C0 lines),(9,.s (.one (.buf 9 File 2 R9 x.2))),(10,C0 m),(11,C0 x.1)],[(9,.spare x.2.length 2 47)])) (fun x=>x.1≤l.length∧x.2.length≤x.1∧(∀f∈x.2,f.Path.length≤3∧f.Blob.length≤5*B+64)∧(x.2.map (·.Path)).Sublist ((l.take x.1).map (·.Path))∧∀f∈x.2,f.Blob.count 10≤2*L+1) (fun x=>l.length - x.1) (0,[]) ⟨Nat.zero_le _,Nat.le_refl _,(fun _ h=>by cases h),List.Sublist.refl [],(fun _ h=>by cases h)⟩ (I90 ⟨le1 rfl,le1 rfl,le1 rfl,le1 rfl,le1 rfl,le1 rfl,le1 rfl,trivial⟩ ⟨rfl,trivial⟩) ?_))
 rintro ⟨i,out⟩ ⟨hi,hol,hall,hsub,hcn⟩
 dsimp only at hi hol hall hsub hcn ⊢
 refine k2 (k2 (A2 (A3 V V (A3 V V (E0 V V (E8 V V V (A4 ?_)))))));refine k1 ?_;refine B0 rfl (fun ht=>?_) (fun ht=>?_)
 rotate_left
 ·refine k6 (k2 (k2 (A2 (A3 V V (A5 (X7 V (.buf _ _ _ _ _)) V (A5 (F7 V V) V (A4 ?_)))))));refine k1 ?_;refine B0 rfl (fun ht=>?_) (fun ht=>?_)
  ·refine k2 (A2 (A3 V V (A3 V V (A3 V V (D3 (E85 raw k lines h0 h1) V V V ?_)))));rintro _ ⟨l',rfl,hl',hn'⟩;refine A6 V V (A4 ?_);refine k1 (k10 (k11 ?_))
   exact B6 (rs:=[T9 l']) (G7 rfl rfl rfl) ⟨l',rfl,hl'.mono (by omega),hn'.mono (by omega)⟩
  ·refine k5 (k1 (k2 (A2 (A3 V V (A6 V V (A4 ?_))))));refine k1 (k10 ?_)
   exact B6 (rs:=[T9 out]) (G7 rfl rfl rfl) ⟨out,rfl,⟨by omega,hall⟩,(hsub.trans ((List.take_sublist _ _).map _)).trans hN.sub,hcn⟩
 have hlt:i < l.length:=by have h1:=A0 ht;(try dsimp only at h1);omega
 obtain ⟨f,hf⟩:∃f,f=l[i]:=⟨_,rfl⟩
 have hv:l[i]?=some f:=by rw [hf];simp [hlt]
 obtain ⟨hfp,hfb⟩:=hl.all f (by rw [hf];exact J18 hlt)
 have hnl:=G91 f.Blob raw (k+7)
 have hnc:=G92 f.Blob raw (k+7)
 have hfc:=hN.cnt f (by rw [hf];exact J18 hlt)
 have htk:(l.take (i+1)).map (·.Path)=(l.take i).map (·.Path)++[f.Path]:=by rw [C39 hv,J42];rfl
 refine k5 (k1 (k2 (k3 (k2 (A2 (A3 V V (A3 V V (A5 (A9 V (.pure _ _ _ _) V (by omega) hv) V (A5 (D7 V V) V (C9 (J4 12 V) V (G8 (C1 TySz.out V V V V V V) (A4 ?_))))))))))));refine k1 (k2 (k2 (A2 (A3 V V (A3 V V (A5 (F7 V V) V (A4 ?_)))))));refine k1 ?_;refine B0 rfl (fun ht=>?_) (fun ht=>?_)
 ·refine k2 (A2 (A5 (A7 V) V (G4 V V V V (A3 V V (A3 V V (D2 V V V (D3 (near_ok f.Blob raw (k+7) (by omega) (by omega)) V V V ?_)))))));rintro _ rfl;refine A5 (A7 V) V (G8 (C1 TySz.out V V V V V V) (A4 ?_));refine k1 (k2 (A2 (A3 V V (A3 V V (D2 V V V (D3 (A10 raw (k+5) (by omega) (by omega)) V V V ?_))))));rintro _ rfl;refine A5 (A59 V V (by omega)) V (A5 (F7 V V) V (A4 ?_));refine k1 ?_;refine B0 rfl (fun ht=>?_) (fun ht=>?_)
  ·refine k6 (k7 (k8 V (k1 (A2 (A3 V V (D2 V V V (A6 V V (A4 ?_))))))));refine k1 ?_
   exact ⟨(i+1,out),⟨hlt,by dsimp only;omega,hall,by dsimp only;rw [htk];exact hsub.trans (List.sublist_append_left _ _),hcn⟩,by dsimp only;omega,(I90 ⟨le1 rfl,le1 rfl,le1 rfl,le1 rfl,le1 rfl,le1 rfl,le1 rfl,trivial⟩ ⟨rfl,trivial⟩)⟩
  ·refine k5 (k1 (A2 (A3 V V (A5 (P3 V V V) V (A5 (C3 (c:=R9) (ys:=[⟨f.Path,A83 f.Blob raw (k+7)⟩]) (D4 V V V V F9) V V V) V (C9 (I9 V V V (.pure _ _ _ _) (by (simp only [J19,J22];omega)) V) V (A6 V V (A4 ?_))))))));refine k4 (k1 (A2 (A3 V V (D2 V V V (A6 V V (A4 ?_))))));refine k1 ?_;refine ⟨(i+1,out++[⟨f.Path,A83 f.Blob raw (k+7)⟩]),⟨hlt,by rw [J20,List.length_singleton];omega,fun x hx=>?_,by dsimp only;rw [htk,J42];exact hsub.append (List.Sublist.refl _),fun x hx=>?_⟩,by dsimp only;omega,(I90 ⟨le1 rfl,le1 rfl,le1 rfl,le1 rfl,le1 rfl,le1 rfl,le1 rfl,trivial⟩ ⟨rfl,trivial⟩)⟩
   ·rcases List.mem_append.1 hx with hx | hx
    ·exact hall x hx
    ·rw [List.mem_singleton.1 hx];exact ⟨hfp,by dsimp only;omega⟩
   ·rcases List.mem_append.1 hx with hx | hx
    ·exact hcn x hx
    ·rw [List.mem_singleton.1 hx];dsimp only;omega
 ·refine k5 (k1 (A2 (A3 V V (A5 (P3 V V V) V (A5 (C3 (c:=R9) (ys:=[f]) (D4 V V V V F9) V V V) V (C9 (I9 V V V (.pure _ _ _ _) (by (simp only [J19,J22];omega)) V) V (A6 V V (A4 ?_))))))));refine k4 (k1 (A2 (A3 V V (D2 V V V (A6 V V (A4 ?_))))));refine k1 ?_;refine ⟨(i+1,out++[f]),⟨hlt,by rw [J20,List.length_singleton];omega,fun x hx=>?_,by dsimp only;rw [htk,J42];exact hsub.append (List.Sublist.refl _),fun x hx=>?_⟩,by dsimp only;omega,(I90 ⟨le1 rfl,le1 rfl,le1 rfl,le1 rfl,le1 rfl,le1 rfl,le1 rfl,trivial⟩ ⟨rfl,trivial⟩)⟩
  ·rcases List.mem_append.1 hx with hx | hx
   ·exact hall x hx
   ·rw [List.mem_singleton.1 hx];exact ⟨hfp,by omega⟩
  ·rcases List.mem_append.1 hx with hx | hx
   ·exact hcn x hx
   ·rw [List.mem_singleton.1 hx];omega
set_option maxHeartbeats 1000000
structure GG (B:Nat) (g:Graph):Prop where
 len:g.length≤16
 pars:∀c∈g,c.Parents.length≤3∧∀p∈c.Parents,0≤p∧p < (g.length:Int)
 files:∀c∈g,GF B c.Files
theorem GG.few {B:Nat} {g:Graph} (h:GG B g) (hB:B≤16777216):FewT g :=
 ⟨⟨by have:=h.len;omega,fun c hc=>by have:=(h.pars c hc).1;omega⟩,fun c hc=>(h.files c hc).few hB⟩
theorem GG.short {B:Nat} {g:Graph} (h:GG B g):Short g:=fun c=>by
 unfold K5
 by_cases hc:c < g.length
 ·rw [J15 hc]
  have:=(h.files _ (J18 hc)).len
  show g[c].Files.length≤6
  omega
 ·rw [J34 (by omega)];simp
structure GU (L:Nat) (g:Graph):Prop where
 up:∀c p:Nat,(p:Int)∈D9 g c→p < c
 nice:∀c∈g,c.Parents.Nodup∧0≤c.Date∧c.Date≤5
 tree:∀c∈g,GN L c.Files
theorem GU.valid {B L:Nat} {g:Graph} (h:GG B g) (hB:B≤1048576) (hL:L≤2111) (hw:OneWay g) (hn:∀c∈g,c.Parents.Nodup∧0≤c.Date∧c.Date≤5) (ht:∀c∈g,GN L c.Files):GV g where
 len:=h.len
 pars:=fun c hc=>⟨(h.pars c hc).1,(h.pars c hc).2,hn c hc⟩
 way:=hw
 files:=fun c hc=>⟨(ht c hc).mono hL,fun f hf=>by have:=((h.files c hc).all f hf).2;omega⟩
theorem G94 {g:Graph} {k:Nat} {x:Commit} (j:Nat) {p:Int} (h:p∈D9 (g.set k x) j):(j=k∧p∈x.Parents)∨p∈D9 g j:=by
 unfold D9 at h ⊢
 rw [List.getElem?_set] at h
 split at h
 ·rename_i e
  split at h
  ·exact .inl ⟨e.symm,h⟩
  ·cases h
 ·exact .inr h
theorem G95 (n:Int) {l:List Int} (h:l.Nodup):(l.map fun q=>n - 1 - q).Nodup:=by
 rw [List.nodup_iff_pairwise_ne,List.pairwise_map]
 exact h.imp fun {a b} hab e=>hab (by omega)
theorem G96 (g:Graph) (raw:List Int) (B L:Nat) (hg:GG B g) (hu:GU L g) (hB:B≤1048576) (hL:L≤2111):FnOk Tryz.prog 16 [I7 g,I5 raw] (fun rs=>∃g',rs=[I7 g']∧GG B g'∧GV g'):=by
 have hgl:=hg.len
 refine FnOk.intro Tryz.func16 (by decide) V V V V ?_
 refine k2 (A2 (A6 V V (A4 ?_)));refine k1 (k2 (k2 (A2 (A3 V V (D3 (A10 raw 3 (by omega) (by omega)) V V V ?_)))));rintro _ rfl;refine A5 (A59 V V (by omega)) V (A5 (F7 V V) V (A4 ?_));refine k1 ?_;refine B0 rfl (fun ht=>?_) (fun ht=>?_)
 ·refine k2 (A2 (A3 V V (A6 V V (A4 ?_))));refine k1 (k10 (k11 ?_))
  exact B6 (rs:=[I7 g]) (G7 rfl rfl rfl) ⟨g,rfl,hg,GU.valid hg hB hL (.inl hu.up) hu.nice hu.tree⟩
 refine k5 (k1 (k2 (A2 (A3 V V (E0 V V (A6 V V (A4 ?_)))))));refine k1 (k2 (A2 (A3 V V (C9 (c8 760 Commit G1 ⟨[],0,[]⟩ V V (by omega) (by omega) (fun _=>by first | exact ⟨⟨rfl,rfl⟩,trivial⟩ | exact ⟨G9 _ _ _,trivial⟩ | exact ⟨G9 _ _ _,⟨rfl,rfl⟩,G9 _ _ _,trivial⟩) (by first | rfl | (simp [K2,J2,Ob.free,SV.free,S1.free,TC.free]<;>rfl))) V ?_))));refine A6 V V (A4 ?_)
 rw [J17]
 refine k1 ?_;refine k2 ?_;refine k2 ?_;refine A2 ?_;refine A6 rfl rfl ?_;refine A4 ?_;refine k1 ?_;refine k3 ?_;refine C5 (X:=Nat × List Commit) (fun x=>([(0,C6 Commit 3 G1 g),(5,C0 g.length),(6,.s (.one (.mut 760))),(7,C0 x.1)],[(760,.arr Commit 3 G1 x.2)])) (fun x=>x.1≤g.length∧x.2.length=g.length∧(∀y∈x.2,y.Parents.length≤3∧∀p∈y.Parents,0≤p∧p < (g.length:Int))∧(∀y∈x.2,GF B y.Files)∧(∀y∈x.2,(y.Parents.Nodup∧0≤y.Date∧y.Date≤5)∧GN L y.Files)∧∀j p:Nat,(p:Int)∈D9 x.2 j→j < p) (fun x=>g.length - x.1) (0,List.replicate g.length ⟨[],0,[]⟩) ⟨Nat.zero_le _,J49,fun y hy=>by rw [(List.mem_replicate.1 hy).2];exact ⟨by simp,fun p hp=>by cases hp⟩,fun y hy=>by rw [(List.mem_replicate.1 hy).2];exact ⟨by simp,fun f hf=>by cases hf⟩,fun y hy=>by rw [(List.mem_replicate.1 hy).2];exact ⟨⟨List.nodup_nil,by decide,by decide⟩,List.nil_sublist _,fun f hf=>by cases hf⟩,fun j p h=>by
  unfold D9 at h
  rw [List.getElem?_replicate] at h
  split at h<;>cases h⟩ (I90 ⟨le1 rfl,le1 rfl,le1 rfl,le1 rfl,trivial⟩ ⟨rfl,trivial⟩) ?_
 rintro ⟨c,o⟩ ⟨hc,hol,hop,hof,hon,hoj⟩
 dsimp only at hc hol hop hof hon hoj ⊢
 refine k2 (k2 (A2 (A3 V V (A3 V V (E8 V V V (A4 ?_))))));refine k1 ?_;refine B0 rfl (fun ht=>?_) (fun ht=>?_)
 rotate_left
 ·refine k6 (k2 (D8 (Sees.freeze (k:=760) V) ?_))
  refine A2 (A3 V V (A6 V V (A4 ?_)));refine k1 (k10 ?_)
  exact B6 (rs:=[I7 o]) (G7 rfl rfl rfl) ⟨o,rfl,⟨by omega,by rw [hol];exact hop,hof⟩,GU.valid (B:=B) ⟨by omega,by rw [hol];exact hop,hof⟩ hB hL (.inr hoj) (fun y hy=>(hon y hy).1) fun y hy=>(hon y hy).2⟩
 have hlt:c < g.length:=by have h1:=A0 ht;(try dsimp only at h1);omega
 obtain ⟨cm,hcm⟩:∃cm,cm=g[c]:=⟨_,rfl⟩
 have hv:g[c]?=some cm:=by rw [hcm];simp [hlt]
 have hm:cm∈g:=by rw [hcm];exact J18 hlt
 obtain ⟨hp3,hpr⟩:=hg.pars cm hm
 have hcf:=hg.files cm hm
 have hcn:=hu.nice cm hm
 have hct:=hu.tree cm hm
 have hcu:∀q∈cm.Parents,q < (c:Int):=fun q hq=>by
  have h1:=hu.up c q.toNat (by rw [S0 hlt,←hcm,Int.toNat_of_nonneg (hpr q hq).1];exact hq)
  have:=(hpr q hq).1
  omega
 refine k5 (k1 (k2 (k3 (k2 (A2 (A3 V V (A3 V V (A5 (A9 V (.pure _ _ _ _) V (by omega) hv) V (A5 (D7 V V) V (C9 (J4 8 V) V (G8 (C1 TySz.out V V V V V V) (A4 ?_))))))))))));refine k1 (k2 (A2 (A5 (A7 V) V (G8 (C1 TySz.out V V V V V V) (A4 ?_)))));refine k1 (k2 (k2 (D8 (J02 753 Int 1 E3 3 (kb:=8) (o:=0) V V V) ?_)))
 refine A2 (A6 V V (A4 ?_));refine k1 (k3 (C5 (X:=Nat × List Int) (fun x=>([(0,C6 Commit 3 G1 g),(5,C0 g.length),(6,.s (.one (.mut 760))),(7,C0 c),(8,.s (.one (.ref 8 0))),(9,C0 x.1)],[(8,.box [.buf 753 Int 1 E3 x.2,.p (.v (.int .i64 cm.Date)),.p (.list File 2 R9 cm.Files)]),(753,.spare x.2.length 1 3),(760,.arr Commit 3 G1 o)])) (fun x=>x.1≤cm.Parents.length∧x.2=(cm.Parents.take x.1).map fun q=>(g.length:Int) - 1 - q) (fun x=>cm.Parents.length - x.1) (0,[]) ⟨Nat.zero_le _,rfl⟩ (I90 ⟨le1 rfl,le1 rfl,le1 rfl,le1 rfl,le1 rfl,le1 rfl,trivial⟩ ⟨rfl,rfl,rfl,trivial⟩) ?_))
 rintro ⟨p,ps⟩ ⟨hp,hpe⟩
 dsimp only at hp hpe ⊢
 have hpl:ps.length=p:=by rw [hpe,J38,J25];omega
 refine k2 (k2 (A2 (A3 V V (A3 V V (A3 V V (A5 (A9 V (.pure _ _ _ _) V (by omega) hv) V (A5 (B8 V) V (A5 (A8 V V) V (E0 V V (E8 V V V (A4 ?_)))))))))));refine k1 ?_;refine B0 rfl (fun ht=>?_) (fun ht=>?_)
 ·have hplt:p < cm.Parents.length:=by have h1:=A0 ht;(try dsimp only at h1);omega
  obtain ⟨q,hq⟩:∃q,q=cm.Parents[p]:=⟨_,rfl⟩
  have hvq:cm.Parents[p]?=some q:=by rw [hq];simp [hplt]
  have hqr:=hpr q (by rw [hq];exact J18 hplt)
  refine k5 (k1 (k2 (k3 (E6 (by kernel_rfl) (by kernel_rfl) (B5 (A7 V) V V (B5 (C4 V V V) V V (E5 V V (B5 (K8 V V (by omega)) V V (E5 V V (E5 V V (B5 (A9 V (.pure _ _ _ _) V (by omega) hv) V V (B5 (B8 V) V V (B5 (A8 V V) V V (E5 V V (B5 (A9 V (.pure _ _ _ _) V (by omega) hvq) V V (B5 (A8 V V) V V (B5 (K8 V V (by omega)) V V (B5 (C3 (c:=E3) (ys:=[(g.length:Int) - 1 - q]) (D4 V V V V F9) V V V) V V (G62 (I9 V V V (.pure _ _ _ _) (by (simp only [J19,J22];omega)) V) V V (B5 (A7 V) V V (d_eff (C1 TySz.out V V V V V V) V (P0 ?_))))))))))))))))))))));refine k4 (k1 (A2 (A3 V V (D2 V V V (A6 V V (A4 ?_))))));refine k1 ?_;refine ⟨(p+1,ps++[(g.length:Int) - 1 - q]),⟨hplt,by dsimp only;rw [C39 hvq,J42,←hpe];rfl⟩,by dsimp only;omega,(I90 ⟨le1 rfl,le1 rfl,le1 rfl,le1 rfl,le1 rfl,le1 rfl,trivial⟩ ⟨rfl,rfl,rfl,trivial⟩)⟩
 have hge:¬(p:Int) < cm.Parents.length:=A1 ht
 have hpa:ps=cm.Parents.map fun q=>(g.length:Int) - 1 - q:=by rw [hpe,J40 (by omega)]
 have hps:∀x∈ps,0≤x∧x < (g.length:Int):=fun x hx=>by
  rw [hpa] at hx
  obtain ⟨q,hq,rfl⟩:=List.mem_map.1 hx
  have:=hpr q hq
  omega
 have hi:0≤(g.length:Int) - 1 - c∧(g.length:Int) - 1 - c < o.length:=by omega
 have hvo:o[((g.length:Int) - 1 - c).toNat]?=some o[((g.length:Int) - 1 - c).toNat]:=J15 (by omega)
 refine k6 (k7 (k7 (k8 V (k1 (A2 (A3 V V (A3 V V (A5 (K8 V V (by omega)) V (A3 V V (A5 (K8 V V (by omega)) V (A5 (P3 V V V) V (A5 (F1 V V V (by omega) (by omega)) V (G8 (C23 (y:=⟨ps,cm.Date,cm.Files⟩) TySz.out V V hvo V V V V (fun _ _ us h=>by first | exact A07 h | (match us,h with | [_,_,_],h=>exact ⟨h.1.2,h.2.1,h.2.2.1,trivial⟩)) (by intro j h1 h2;rcases j with _ | _ | _ | j<;>first | rfl | omega)) ?_)))))))))))));refine A4 ?_;refine k4 (k1 (A2 (A3 V V (D2 V V V (A6 V V (A4 ?_))))));refine k1 ?_;refine ⟨(c+1,o.set ((g.length:Int) - 1 - c).toNat ⟨ps,cm.Date,cm.Files⟩),⟨hlt,by dsimp only;rw [J41];exact hol,fun y hy=>?_,fun y hy=>?_,fun y hy=>?_,fun j p hj=>?_⟩,by dsimp only;omega,(I90 ⟨le1 rfl,le1 rfl,le1 rfl,le1 rfl,trivial⟩ ⟨rfl,trivial⟩)⟩
 ·rcases List.mem_or_eq_of_mem_set hy with hy | rfl
  ·exact hop y hy
  ·exact ⟨by dsimp only;omega,hps⟩
 ·rcases List.mem_or_eq_of_mem_set hy with hy | rfl
  ·exact hof y hy
  ·exact hcf
 ·rcases List.mem_or_eq_of_mem_set hy with hy | rfl
  ·exact hon y hy
  ·exact ⟨⟨by rw [hpa];exact G95 _ hcn.1,hcn.2⟩,hct⟩
 ·rcases G94 j hj with ⟨e,h1⟩ | h1
  ·dsimp only at h1
   rw [hpa] at h1
   obtain ⟨q,hq,e2⟩:=List.mem_map.1 h1
   have:=hcu q hq
   omega
  ·exact hoj j p h1
set_option maxHeartbeats 2000000
def D96:Nat→Nat
 | 0=>0
 | c+1=>5*D96 c+64
def D37:Nat→Nat
 | 0=>32
 | c+1=>2*D37 c+1
theorem bndG_le (c:Nat) (h:c≤6):(32≤D37 c∧D96 c≤1000000)∧D37 c≤2111:=by
 match c,h with
 | 0,_=>decide
 | 1,_=>decide
 | 2,_=>decide
 | 3,_=>decide
 | 4,_=>decide
 | 5,_=>decide
 | 6,_=>decide
theorem GG.mono {B B':Nat} {g:Graph} (h:GG B g) (hB:B≤B'):GG B' g:=⟨h.len,h.pars,fun c hc=>(h.files c hc).mono hB⟩
theorem I10 (raw:List Int) (n lines:Int) (hn:0≤n∧n≤6) (hl:0≤lines∧lines≤16):FnOk Tryz.prog 4 [I5 raw,F2 n,F2 lines] (fun rs=>∃g,rs=[I7 g]∧GG 1250000 g∧GV g):=by
 have hmi:=a8 (Y3 raw 0) (n:=n+1) (by omega)
 obtain ⟨m,hm⟩:∃m:Nat,Y2 (Y3 raw 0) (n+1)=(m:Int):=⟨(Y2 (Y3 raw 0) (n+1)).toNat,by omega⟩
 have hm6:m≤6:=by omega
 refine FnOk.intro Tryz.func4 (by decide) V V V V ?_
 refine k2 (A2 (A6 V V (A4 ?_)));refine k1 (k2 (A2 (A3 V V (D3 (A10 raw 0 (by omega) (by omega)) V V V ?_))));rintro _ rfl;refine A3 V V (D2 V V V (D3 (B28 (Y3 raw 0) (n+1) (by omega) (by omega)) V V V ?_));rintro _ rfl;refine A6 V V (A4 ?_)
 rw [hm]
 refine k1 (k2 (A2 (C9 (G64 7 (c:=G1) (ys:=([]:List Commit)) F9 V V V (by first | rfl | (simp [K2,J2,Ob.free,SV.free,S1.free,TC.free]<;>rfl))) V ?_)));refine A6 V V (A4 ?_);refine k1 (k2 (k2 (A2 (A6 V V (A4 ?_)))));refine k1 (k3 (C5 (X:=Nat × List Commit) (fun x=>([(0,C6 Int 1 E3 raw),(1,C0 m),(2,C0 lines),(7,.s (.one (.buf 7 Commit 3 G1 x.2))),(8,C0 x.1)],[(7,.spare x.2.length 3 39)])) (fun x=>x.1≤m∧x.2.length=x.1∧(∀y∈x.2,y.Parents.length≤3∧∀p∈y.Parents,0≤p∧p < (x.1:Int))∧(∀y∈x.2,GF (D96 x.1) y.Files)∧GU (D37 x.1) x.2) (fun x=>m - x.1) (0,[]) ⟨Nat.zero_le _,rfl,(fun _ h=>by cases h),(fun _ h=>by cases h),(fun _ _ h=>by cases h),(fun _ h=>by cases h),(fun _ h=>by cases h)⟩ (I90 ⟨le1 rfl,le1 rfl,le1 rfl,le1 rfl,le1 rfl,trivial⟩ ⟨rfl,trivial⟩) ?_))
 rintro ⟨c,gs⟩ ⟨hc,hgl,hgp,hgf,hgu⟩
 dsimp only at hc hgl hgp hgf hgu ⊢
 obtain ⟨⟨hb1,hb2⟩,hb3⟩:=bndG_le c (by omega)
 refine k2 (k2 (A2 (A3 V V (A3 V V (E8 V V V (A4 ?_))))));refine k1 ?_;refine B0 rfl (fun ht=>?_) (fun ht=>?_)
 rotate_left
 ·refine k6 (k2 (A2 (A3 V V (A3 V V (D3 (G96 gs raw (D96 c) (D37 c) ⟨by omega,by rw [hgl];exact hgp,hgf⟩ hgu (by omega) hb3) V V V ?_)))));rintro _ ⟨g',rfl,hg',hv'⟩;refine A6 V V (A4 ?_);refine k1 (k10 ?_)
  exact B6 (rs:=[I7 g']) (G7 rfl rfl rfl) ⟨g',rfl,GG.mono hg' (by omega),hv'⟩
 have hlt:c < m:=by have h1:=A0 ht;(try dsimp only at h1);omega
 refine k5 (k1 (k2 (k3 (k2 (A2 (A3 V V (A3 V V (D2 V V V (D3 (A10 raw (1000+(c:Int)) (by omega) (by omega)) V V V ?_)))))))));rintro _ rfl;refine D3 (B28 (Y3 raw (1000+(c:Int))) 5 (by omega) (by omega)) V V V ?_;rintro _ rfl;refine A5 (K1 V) V (C9 (J4 9 V) V (G8 (C1 TySz.out V V V V V V) (A4 ?_)))
 have hdr:=a8 (Y3 raw (1000+(c:Int))) (n:=5) (by omega)
 obtain ⟨d,hd⟩:∃d,d=Y2 (Y3 raw (1000+(c:Int))) 5:=⟨_,rfl⟩
 rw [←hd] at hdr ⊢
 refine k1 (k2 (k2 (D8 (J02 753 Int 1 E3 3 (kb:=9) (o:=0) V V V) ?_)))
 refine A2 (A6 V V (A4 ?_));refine k1 (k3 (C5 (X:=Nat × List Int) (fun x=>([(0,C6 Int 1 E3 raw),(1,C0 m),(2,C0 lines),(7,.s (.one (.buf 7 Commit 3 G1 gs))),(8,C0 c),(9,.s (.one (.ref 9 0))),(10,C0 x.1)],[(7,.spare gs.length 3 39),(9,.box [.buf 753 Int 1 E3 x.2,.p (.v (.int .i64 d)),.p (.v (.slice none 0 0))]),(753,.spare x.2.length 1 3)])) (fun x=>x.1≤c∧x.2.length≤3∧(∀q∈x.2,0≤q∧q < (x.1:Int))∧x.2.Nodup) (fun x=>c - x.1) (0,[]) ⟨Nat.zero_le _,by simp,(fun _ h=>by cases h),List.nodup_nil⟩ (I90 ⟨le1 rfl,le1 rfl,le1 rfl,le1 rfl,le1 rfl,le1 rfl,le1 rfl,trivial⟩ ⟨rfl,rfl,rfl,trivial⟩) ?_))
 rintro ⟨p,ps⟩ ⟨hp,hpl,hps,hpn⟩
 dsimp only at hp hpl hps hpn ⊢
 refine k2 (k2 (A2 (A3 V V (A3 V V (E8 V V V (A4 ?_))))));refine k1 ?_;refine B0 rfl (fun ht=>?_) (fun ht=>?_)
 ·have hplt:p < c:=by have h1:=A0 ht;(try dsimp only at h1);omega
  refine k5 (k1 (k2 (k3 (k2 (A2 (A3 V V (A3 V V (A5 (A58 V V (by omega)) V (D2 V V V (A3 V V (D2 V V V (D3 (A10 raw (1100+40*(c:Int)+(p:Int)) (by omega) (by omega)) V V V ?_))))))))))));rintro _ rfl;refine A5 (A59 V V (by omega)) V (A5 (F7 V V) V (A3 V V (B1 V V V V (fun hg=>by rw [hg];exact A7 V) ?_)));refine B1 V V V V (fun hg=>by rw [hg];exact C4 V V V) ?_;refine B1 V V V V (fun hg=>by rw [hg];exact X7 V (.buf _ _ _ _ _)) ?_;refine B1 V V V V (fun hg=>by rw [hg];exact A60 V V) ?_;refine I6 V V ?_;refine A4 ?_;refine k1 ?_;refine B0 rfl (fun ht=>?_) (fun ht=>?_)
  ·have h2:=(A0 (and_pick.symm.trans ht)).2
   skip
   refine A2 (A5 (A7 V) V (G4 V V V V (A3 V V (A5 (C3 (c:=E3) (ys:=[(p:Int)]) (D4 V V V V F9) V V V) V (C9 (I9 V V V (.pure _ _ _ _) (by (simp only [J19,J22];omega)) V) V (A5 (A7 V) V (G8 (C1 TySz.out V V V V V V) (A4 ?_))))))));refine k4 (k1 (A2 (A3 V V (D2 V V V (A6 V V (A4 ?_))))));refine k1 ?_;refine ⟨(p+1,ps++[(p:Int)]),⟨hplt,by rw [J20,List.length_singleton];omega,fun x hx=>?_,?_⟩,by dsimp only;omega,(I90 ⟨le1 rfl,le1 rfl,le1 rfl,le1 rfl,le1 rfl,le1 rfl,le1 rfl,trivial⟩ ⟨rfl,rfl,rfl,trivial⟩)⟩
   ·rcases List.mem_append.1 hx with hx | hx
    ·have:=hps x hx;dsimp only;omega
    ·rw [List.mem_singleton.1 hx];dsimp only;omega
   ·dsimp only
    refine List.nodup_append.2 ⟨hpn,by simp,fun a ha b hb e=>?_⟩
    have:=hps a ha
    rw [e,List.mem_singleton.1 hb] at this
    omega
  ·refine k5 (k4 (k1 (A2 (A3 V V (D2 V V V (A6 V V (A4 ?_)))))));refine k1 ?_
   exact ⟨(p+1,ps),⟨hplt,hpl,fun x hx=>by have:=hps x hx;dsimp only;omega,hpn⟩,by dsimp only;omega,(I90 ⟨le1 rfl,le1 rfl,le1 rfl,le1 rfl,le1 rfl,le1 rfl,le1 rfl,trivial⟩ ⟨rfl,rfl,rfl,trivial⟩)⟩
 refine k6 (k2 (k2 (A2 (A5 (A7 V) V (G4 V V V V (A5 (X7 V (.buf _ _ _ _ _)) V (A5 (F7 V V) V (A3 V V (B1 V V V V (fun hg=>by rw [hg];exact B7 V V) ?_)))))))));refine B1 V V V V (fun hg=>by rw [hg];exact M5 V V) ?_;refine I6 V V ?_;refine A3 V V (B1 V V V V (fun hg=>by rw [hg];exact B7 V V) ?_);refine B1 V V V V (fun hg=>by rw [hg];exact B7 V V) ?_;refine B1 V V V V (fun hg=>by have hq:=hg;(try simp at hq);rw [hg];exact Z9 V V (by omega)) ?_;refine B1 V V V V (fun hg=>by have hq:=hg;(try simp at hq);rw [hg];exact N4 (A10 raw (1500+(c:Int)) (by omega) (by omega)) V V) ?_;refine B1 V V V V (fun hg=>by have hq:=hg;(try simp at hq);rw [hg];exact A59 V V (by omega)) ?_;refine B1 V V V V (fun hg=>by rw [hg];exact M5 V V) ?_;refine I6 V V ?_;refine A4 ?_;refine k1 ?_;refine F82 (X:=List Int) (fun qs=>([(0,C6 Int 1 E3 raw),(1,C0 m),(2,C0 lines),(7,.s (.one (.buf 7 Commit 3 G1 gs))),(8,C0 c),(9,.s (.one (.ref 9 0)))],[(7,.spare gs.length 3 39),(9,.box [.p (.list Int 1 E3 qs),.p (.v (.int .i64 d)),.p (.v (.slice none 0 0))])])) (fun qs=>qs.length≤3∧(∀q∈qs,0≤q∧q < (c:Int))∧qs.Nodup) ?_ ?_
 ·refine B0 rfl (fun ht=>?_) (fun ht=>?_)
  ·rw [n6,n6,J16,J16] at ht
   have h2:=A0 ht.1.2
   skip
   refine A2 (A3 V V (A5 (K8 V V (by omega)) V (A5 (C3 (c:=E3) (ys:=[(c:Int) - 1]) (D4 V V V V F9) V V V) V (A5 (A7 V) V (G8 (C1 TySz.out V V V V V V) (A4 ?_))))));refine k1 ?_
   exact ⟨[(c:Int) - 1],⟨by simp,fun q hq=>by rw [List.mem_singleton.1 hq];omega,by simp⟩,Sees.trans (J06 9 0 rfl rfl rfl) (I90 ⟨le1 rfl,le1 rfl,le1 rfl,le1 rfl,le1 rfl,le1 rfl,trivial⟩ ⟨rfl,rfl,trivial⟩)⟩
  ·refine k5 (k1 ?_)
   exact ⟨ps,⟨hpl,fun q hq=>by have:=hps q hq;omega,hpn⟩,Sees.trans (J06 9 0 rfl rfl rfl) (I90 ⟨le1 rfl,le1 rfl,le1 rfl,le1 rfl,le1 rfl,le1 rfl,trivial⟩ ⟨rfl,rfl,trivial⟩)⟩
 rintro qs ⟨hql,hqs,hqn⟩
 dsimp only
 refine k2 (A2 (A3 V V (A3 V V (A5 (A58 V V (by omega)) V (D2 V V V (A3 V V (D3 (E85 raw (2000+200*(c:Int)) lines (by omega) hl) V V V ?_)))))));rintro _ ⟨fl,rfl,hfl,hfn⟩;refine A5 (A7 V) V (G8 (C1 TySz.out V V V V V V) (A4 ?_));refine k1 (k2 (k2 (A2 (A5 (A7 V) V (G4 V V V V (E0 V V (A5 (M5 V V) V (A3 V V (B1 V V V V (fun hg=>by rw [hg];exact B7 V V) ?_)))))))));refine B1 V V V V (fun hg=>by rw [hg];exact B7 V V) ?_;refine B1 V V V V (fun hg=>by have hq:=hg;(try simp at hq);rw [hg];exact Z9 V V (by omega)) ?_;refine B1 V V V V (fun hg=>by have hq:=hg;(try simp at hq);rw [hg];exact N4 (A10 raw (1600+(c:Int)) (by omega) (by omega)) V V) ?_;refine B1 V V V V (fun hg=>by have hq:=hg;(try simp at hq);rw [hg];exact A59 V V (by omega)) ?_;refine B1 V V V V (fun hg=>by rw [hg];exact M5 V V) ?_;refine I6 V V ?_;refine A4 ?_;refine k1 ?_;refine F82 (X:=List File) (fun fs=>([(0,C6 Int 1 E3 raw),(1,C0 m),(2,C0 lines),(7,.s (.one (.buf 7 Commit 3 G1 gs))),(8,C0 c),(9,.s (.one (.ref 9 0)))],[(7,.spare gs.length 3 39),(9,.box [.p (.list Int 1 E3 qs),.p (.v (.int .i64 d)),.p (.list File 2 R9 fs)])])) (fun fs=>GF (D96 (c+1)) fs∧GN (D37 (c+1)) fs) ?_ ?_
 ·refine B0 rfl (fun ht=>?_) (fun ht=>?_)
  ·rw [n6,J16] at ht
   have h2:=A0 ht.1
   obtain ⟨q,qr,rfl⟩:∃q qr,qs=q::qr:=by
    cases qs with
    | nil=>simp at h2
    | cons q qr=>exact ⟨q,qr,rfl⟩
   have hqr:=hqs q (by simp)
   have hqg:q.toNat < gs.length:=by omega
   obtain ⟨cq,hcq⟩:∃cq,cq=gs[q.toNat]:=⟨_,rfl⟩
   have hvq:gs[q.toNat]?=some cq:=by rw [hcq];simp [hqg]
   have hcf:=hgf cq (by rw [hcq];exact J18 hqg)
   have hcn:=hgu.tree cq (by rw [hcq];exact J18 hqg)
   skip
   refine A2 (A3 V V (A5 (A7 V) V (G4 V V V V (A5 (A9 V (.pure _ _ _ _) V (by omega) (show (q::qr)[Int.toNat 0]?=some q from V)) V (A5 (A8 V V) V (A5 (A9 V (.buf _ _ _ _ _) V (by omega) hvq) V (A5 (B8 V) V (A5 (A8 V V) V (A3 V V (A3 V V (A5 (A58 V V (by omega)) V (D2 V V V (A3 V V (D3 (G93 cq.Files raw (2000+200*(c:Int)) lines (D96 c) (D37 c) hcf hcn hb1 (by omega) (by omega) hl) V V V ?_))))))))))))));rintro _ ⟨fl2,rfl,hfl2,hfn2⟩;refine A5 (A7 V) V (G8 (C1 TySz.out V V V V V V) (A4 ?_));refine k1 ?_
   exact ⟨fl2,⟨hfl2,hfn2⟩,(I90 ⟨le1 rfl,le1 rfl,le1 rfl,le1 rfl,le1 rfl,le1 rfl,trivial⟩ ⟨rfl,rfl,trivial⟩)⟩
  ·refine k5 (k1 ?_)
   exact ⟨fl,⟨hfl.mono (show 64≤D96 (c+1) by rw [D96];omega),hfn.mono (show 64≤D37 (c+1) by rw [D37];omega)⟩,(I90 ⟨le1 rfl,le1 rfl,le1 rfl,le1 rfl,le1 rfl,le1 rfl,trivial⟩ ⟨rfl,rfl,trivial⟩)⟩
 rintro fs ⟨hfs,hfsn⟩
 dsimp only
 skip
 refine A2 (A3 V V (A5 (P3 V V V) V (A5 (C3 (c:=G1) (ys:=[⟨qs,d,fs⟩]) (D4 V V V V F9) V V V) V (C9 (I9 V V V (.pure _ _ _ _) (by (simp only [J19,J22];omega)) V) V (A6 V V (A4 ?_))))));refine k4 (k1 (A2 (A3 V V (D2 V V V (A6 V V (A4 ?_))))));refine k1 ?_;refine ⟨(c+1,gs++[⟨qs,d,fs⟩]),⟨hlt,by dsimp only;rw [J20,List.length_singleton,hgl],fun y hy=>?_,fun y hy=>?_,fun j p hj=>?_,fun y hy=>?_,fun y hy=>?_⟩,by dsimp only;omega,(I90 ⟨le1 rfl,le1 rfl,le1 rfl,le1 rfl,le1 rfl,trivial⟩ ⟨rfl,trivial⟩)⟩
 ·rcases List.mem_append.1 hy with hy | hy
  ·exact ⟨(hgp y hy).1,fun p hp=>by have:=(hgp y hy).2 p hp;dsimp only;omega⟩
  ·rw [List.mem_singleton.1 hy];exact ⟨hql,fun p hp=>by have:=hqs p hp;dsimp only;omega⟩
 ·rcases List.mem_append.1 hy with hy | hy
  ·exact (hgf y hy).mono (show D96 c≤D96 (c+1) by rw [D96];omega)
  ·rw [List.mem_singleton.1 hy];exact hfs
 ·dsimp only at hj
  unfold D9 at hj
  rcases Nat.lt_trichotomy j gs.length with h1 | h1 | h1
  ·rw [J27 h1] at hj;exact hgu.up j p hj
  ·subst h1
   rw [List.getElem?_concat_length] at hj
   have:=hqs p hj
   omega
  ·rw [J34 (by rw [J20,List.length_singleton];omega)] at hj;cases hj
 ·rcases List.mem_append.1 hy with hy | hy
  ·exact hgu.nice y hy
  ·rw [List.mem_singleton.1 hy];exact ⟨hqn,by dsimp only;omega,by dsimp only;omega⟩
 ·rcases List.mem_append.1 hy with hy | hy
  ·exact (hgu.tree y hy).mono (show D37 c≤D37 (c+1) by rw [D37];omega)
  ·rw [List.mem_singleton.1 hy];exact hfsn
set_option maxHeartbeats 1000000
abbrev S8 (s:Str) (a d:Nat):Ob:=.box [.p (.v (.string ⟨s.toArray⟩)),.p (.v (.int .i64 a)),.p (.v (.int .i64 d)),.mut 811]
abbrev U3 (l:List AL.Node):Ob:=.grow 164 AL.Node 8 B11 l
abbrev b8 (c:UInt8):S1:=.one (.p (.v (.int .u8 c.toNat)))
abbrev X3:S1:=.one (.ref 810 0)
theorem B34 {gf:Fr} {ob:Obs} (s:Str) (a d:Nat) (ha:a≤s.length) (_hs:s.length≤1000) (h0:B9 ob 810=some (S8 s a d)) :
  AL.Met Tryz.prog 133 [X3] gf ob [] (fun rs ob'=>rs=[b8 (s.getD a 0),B07 (decide (a < s.length))]∧ob'=ob):=by
 refine AL.Met.intro Tryz.func133 (by decide) V V V ?_
 refine k2 (A2 (A6 V V (A6 V V (A4 ?_))));refine k1 (k2 (k2 (E6 (by kernel_rfl) (by kernel_rfl) (E5 V V (B5 (B4 V) V V (B5 (A7 V) V V (B5 (C4 V h0 V) V V (E5 V V (B5 (B4 V) V V (B5 (A7 V) V V (B5 (C4 V h0 V) V V (B5 (J3 V) V V (B5 (F7 V V) V V (P0 ?_))))))))))))));refine k1 ?_;refine B0 rfl (fun ht=>?_) (fun ht=>?_)
 ·have h1:a=s.length:=by have h1:=A0 ht;omega
  refine k2 (A2 (A6 V V (A6 V V (A4 ?_))));refine k1 (k10 (k11 ?_));refine G5 (rets2 rfl rfl rfl) (by repeat (first | exact B2 | refine B3 rfl ?_ | refine D1 _ ?_)) (fun _ _ h=>h) ⟨?_,rfl⟩
  rw [h1,decide_eq_false (by omega),J21,J34 (by omega)];rfl
 ·have h1:a < s.length:=by have h1:=A1 ht;omega
  have hv:s[((a:Nat):Int).toNat]?=some (s.getD a 0):=by rw [J17,J21,J15 h1];rfl
  refine k5 (k1 (k2 (E6 (by kernel_rfl) (by kernel_rfl) (E5 V V (B5 (B4 V) V V (B5 (A7 V) V V (B5 (C4 V h0 V) V V (E5 V V (B5 (B4 V) V V (B5 (A7 V) V V (B5 (C4 V h0 V) V V (B5 (j1 V V (by omega) hv) V V (B5 (I3 V V) V V (B5 (I3 V V) V V (P0 ?_)))))))))))))));refine k1 (k10 ?_);refine G5 (rets2 rfl rfl rfl) (by repeat (first | exact B2 | refine B3 rfl ?_ | refine D1 _ ?_)) (fun _ _ h=>h) ⟨?_,rfl⟩
  rw [decide_eq_true h1]
theorem F37 {gf:Fr} {ob:Obs} (s:Str) (a d:Nat) (c:UInt8) (ha:a≤s.length) (hs:s.length≤1000) (h0:B9 ob 810=some (S8 s a d)) :
  AL.Met Tryz.prog 97 [X3,b8 c] gf ob [] (fun rs ob'=>rs=[B07 (decide (s[a]?=some c))]∧ob'=(810,S8 s (if s[a]?=some c then a+1 else a) d)::ob):=by
 have hu:∀x y:UInt8,((x.toNat:Int)=y.toNat)↔x=y:=fun x y=>⟨fun h=>UInt8.toNat_inj.1 (by omega),fun h=>by rw [h]⟩
 refine AL.Met.introH Tryz.func97 (by decide) rfl rfl rfl (fun hH=>?_)
 refine D8 (I91 (l:=[(0,.s X3),(1,.s (b8 c))]) (ob':=(810,S8 s a d)::ob) ⟨le1 rfl,le1 rfl,trivial⟩ hH (by repeat (first | exact B2 | refine B3 rfl ?_)) (E2 (L:=[(810,_)]) ⟨h0,trivial⟩ D5)) ?_
 refine k2 (A2 (A6 V V (A4 ?_)));refine k1 (k2 (A2 (A3 V V (L1 (B34 s a d ha hs V) V V V ?_))));rintro _ _ ⟨rfl,rfl⟩;refine A3 V V (H6 V V V (H6 V V V (A6 V V (A6 V V (A4 ?_)))));refine k1 (k2 (k2 (A2 (A3 V V (A5 (U2 V) V (A3 V V (B1 V V V V (fun hg=>by rw [hg];exact B7 V V) ?_)))))));refine B1 V V V V (fun hg=>by rw [hg];exact B7 V V) ?_;refine B1 V V V V (fun hg=>by rw [hg];exact Q8 V V) ?_;refine I6 V V ?_;refine A4 ?_;refine k1 ?_
 by_cases hc:s[a]?=some c
 ·have hlt:a < s.length:=(List.getElem?_eq_some_iff.1 hc).1
  have hg:s.getD a 0=c:=by rw [J21,hc];rfl
  rw [decide_eq_true hc,if_pos hc]
  refine B0 rfl (fun ht=>?_) (fun ht=>?_)
  ·rw [F46,decide_eq_true hlt,hg] at ht
   simp at ht
  ·refine k5 (k1 (k2 (A2 (A3 V V (A5 (B4 V) V (A5 (A7 V) V (G4 V V V V (D2 V V V (A5 (B4 V) V (A5 (A7 V) V (G8 (C1 TySz.out V V V V V V) (A4 ?_))))))))))));refine k1 (k2 (A2 (A6 V V (A4 ?_))));refine k1 (k10 ?_)
   exact G5 (K4 rfl rfl) (by repeat (first | exact B2 | refine B3 rfl ?_ | refine D1 _ ?_)) (E2 (L:=[(810,_)]) ⟨rfl,trivial⟩ (by repeat (first | exact D5 | refine D6 rfl ?_))) ⟨rfl,rfl⟩
 ·rw [decide_eq_false hc,if_neg hc]
  refine B0 rfl (fun ht=>?_) (fun ht=>?_)
  ·refine k2 (A2 (A6 V V (A4 ?_)));refine k1 (k10 (k11 ?_))
   exact G5 (K4 rfl rfl) (by repeat (first | exact B2 | refine B3 rfl ?_ | refine D1 _ ?_)) (fun _ _ h=>h) ⟨rfl,rfl⟩
  ·rw [F46,J45] at ht
   have h1:a < s.length:=by simpa using ht.1
   have h2:=A1 ht.2
   exfalso
   refine hc ?_
   have h3:s.getD a 0=c:=(hu _ _).1 (Decidable.not_not.1 h2)
   rw [←h3,J21,J15 h1];rfl
theorem I66 {gf:Fr} {ob:Obs} (s:Str) (a d:Nat) (ha:a < s.length) (hs:s.length≤1000) (h0:B9 ob 810=some (S8 s a d)) :
  AL.Met Tryz.prog 193 [X3] gf ob [] (fun rs ob'=>rs=[b8 (s.getD a 0)]∧ob'=(810,S8 s (a+1) d)::ob):=by
 refine AL.Met.introH Tryz.func193 (by decide) rfl rfl rfl (fun hH=>?_)
 refine D8 (I91 (l:=[(0,.s X3)]) (ob':=(810,S8 s a d)::ob) ⟨le1 rfl,trivial⟩ hH (by repeat (first | exact B2 | refine B3 rfl ?_)) (E2 (L:=[(810,_)]) ⟨h0,trivial⟩ D5)) ?_
 refine k2 (A2 (A6 V V (A4 ?_)));refine k1 (k2 (A2 (A3 V V (L1 (B34 s a d (by omega) hs V) V V V ?_))));rintro _ _ ⟨rfl,rfl⟩;refine A3 V V (H6 V V V (H6 V V V (A6 V V (A6 V V (A4 ?_)))))
 rw [decide_eq_true ha]
 refine k1 (k2 (k2 (A2 (A3 V V (A5 (U2 V) V (A4 ?_))))));refine k1 ?_;refine B0 rfl (fun ht=>?_) (fun ht=>?_)
 ·cases ht
 refine k5 (k1 (k2 (A2 (A3 V V (A5 (B4 V) V (A5 (A7 V) V (G4 V V V V (D2 V V V (A5 (B4 V) V (A5 (A7 V) V (G8 (C1 TySz.out V V V V V V) (A4 ?_))))))))))));refine k1 (k2 (A2 (A3 V V (A6 V V (A4 ?_)))));refine k1 (k10 ?_)
 exact G5 (K4 rfl rfl) (by repeat (first | exact B2 | refine B3 rfl ?_ | refine D1 _ ?_)) (E2 (L:=[(810,_)]) ⟨rfl,trivial⟩ (by repeat (first | exact D5 | refine D6 rfl ?_))) ⟨rfl,rfl⟩
theorem B35 {gf:Fr} {ob:Obs} (s:Str) (a d:Nat) (l:List AL.Node) (n:AL.Node) (hl:l.length≤1000) (h0:B9 ob 810=some (S8 s a d)) (h1:B9 ob 811=some (U3 l)) :
  AL.Met Tryz.prog 135 [X3,(D33 n).s1] gf ob [811] (fun rs ob'=>rs=[N0 l.length]∧ob'=(810,S8 s a d)::(811,U3 (l++[n]))::Obs.forget 811 ob):=by
 refine AL.Met.introH Tryz.func135 (by decide) rfl rfl rfl (fun hH=>?_)
 refine D8 (I92 811 (l:=[(0,.s X3),(1,.s (D33 n).s1)]) (L:=[(810,_),(811,_)]) ⟨le1 rfl,le1 rfl,trivial⟩ hH (by repeat (first | exact B2 | refine B3 rfl ?_)) ⟨h0,h1,trivial⟩) ?_
 refine k2 (A2 (A5 (o6 V V V) V (A6 V V (A4 ?_))));refine k1 (k2 ?_);refine D8 (I91 (gf':=Fr.forget 811 gf) (l:=[(0,.s X3),(3,.s (.one (.eref Unit 8 (fun _ j=>(cellsOf B11 n 0 8).getD j (.v undef)) () 0)))]) (ob':=[(810,S8 s a d),(811,U3 l)]++Obs.forget 811 ob) ⟨le1 rfl,le1 rfl,trivial⟩ (A21 hH) (by repeat (first | exact B2 | refine B3 rfl ?_)) (fun _ _ h=>h)) ?_
 refine O0 [10,7] [[],[7],[10,7]] [(7,([811],[9])),(10,([],[]))] [(0,[]),(1,[]),(2,[]),(3,[]),(4,[]),(5,[]),(6,[]),(7,[]),(8,[7]),(9,[7]),(10,[7])] [(0,[7])] (by kernel_rfl) (by kernel_rfl) (E1 V V (by kernel_rfl) V V (B7 V V) (E1 V V (by kernel_rfl) V V (B7 V V) (E1 V V (by kernel_rfl) V V (B4 V) (E1 V V (by kernel_rfl) V V (A7 V) (E1 V V (by kernel_rfl) V V (C4 V V V) (E1 V V (by kernel_rfl) V V (D7 V V) (E1 V V (by kernel_rfl) V V (C3 (c:=B11) (ys:=[n]) (D4 V V V V F9) V V V) (W6 V V (by kernel_rfl) V V (C77 (fun frc hU=>R8 (R4 hU V) V (R4 hU V) (.pure _ _ _ _) (by (simp only [J19,J22];omega)) V)) V (E1 V V (by kernel_rfl) V V (B4 V) (E1 V V (by kernel_rfl) V V (A7 V) (W6 V V (by kernel_rfl) V V (A23 (fun frc hU=>C1 TySz.out (R4 hU V) V (R4 hU V) V V V)) V ?_)))))))))));refine C78 (ks:=[811]) rfl (by kernel_rfl) rfl ?_ ?_
 ·refine M6 V V (by kernel_rfl) V V (B7 V V) ?_;exact B24
 refine k1 (k2 (A2 (A3 V V (A5 (B4 V) V (A5 (A7 V) V (G4 V V V V (A5 (V5 V V) V (A5 (K8 V V (by (simp only [J20,List.length_singleton];omega))) V (A6 V V (A4 ?_))))))))));refine k1 (k10 ?_);refine G5 (K4 rfl rfl) (by repeat (first | exact B2 | refine tail_drop rfl ?_ | refine B3 rfl ?_ | refine J7 _ ?_ | refine D1 _ ?_)) (E2 (L:=[(810,_),(811,_)]) ⟨rfl,rfl,trivial⟩ (by repeat (first | exact D5 | refine D6 rfl ?_ | refine P7 _ ?_))) ⟨?_,rfl⟩
 rw [J20,List.length_singleton]
 congr 5
 omega
set_option maxHeartbeats 1000000
theorem I11:FnOk Tryz.prog 192 [H76 ⟨0,0,0,0⟩,pByte 97] (fun rs=>rs=[H76 ⟨0,8589934592,0,0⟩]):=by
 refine FnOk.intro Tryz.func192 (by decide) V V V V ?_
 refine k2 (A2 (C9 (x4 2 V V V) V (C9 (J4 4 V) V (A4 ?_))));refine k1 (k2 (A2 (A3 V V (A5 (D41 V V (by decide)) V (A5 (K6 V V (by first | omega | decide) (by decide)) V (G4 V V V V (A3 V V (A5 (A59 V V (by decide)) V (A5 (n_shl V V (by decide)) V (A5 (C68 V V V (fun _=>rfl)) V (A5 (K6 V V (by first | omega | decide) (by decide)) V (G8 (C1 TySz.out V V V V V V) (A4 ?_)))))))))))));refine k1 (k2 (A2 (A5 (P3 V V V) V (G8 (C1 TySz.out V V V V V V) (A4 ?_)))));refine k1 (k10 ?_)
 exact B6 (retc rfl rfl rfl rfl rfl) (by kernel_rfl)
theorem I67 {gf:Fr} {ob:Obs} (s:Str) (a d:Nat) (l:List AL.Node) (z:Set4) (hl:l.length≤1000) (h0:B9 ob 810=some (S8 s a d)) (h1:B9 ob 811=some (U3 l)) :
  AL.Met Tryz.prog 191 [X3,(H76 z).s1] gf ob [811] (fun rs ob'=>rs=[N0 l.length]∧ob'=(810,S8 s a d)::(811,U3 (l++[⟨1,z,0,0,[]⟩]))::Obs.forget 811 ob):=by
 refine AL.Met.introH Tryz.func191 (by decide) rfl rfl rfl (fun hH=>?_)
 refine D8 (I92 811 (l:=[(0,.s X3),(1,.s (H76 z).s1)]) (L:=[(810,_),(811,_)]) ⟨le1 rfl,le1 rfl,trivial⟩ hH (by repeat (first | exact B2 | refine B3 rfl ?_)) ⟨h0,h1,trivial⟩) ?_
 refine k2 (A2 (A5 (o6 V V V) V (A6 V V (A4 ?_))));refine k1 (k2 (A2 (A3 V V (A5 (D7 V V) V (A5 (K1 V) V (F11 ((J00 Int 1 E3 7 7 V V)) (L1 (B35 s a d l ⟨1,z,0,0,[]⟩ hl V V) V V V ?_)))))));rintro _ _ ⟨rfl,rfl⟩;refine A6 V V (A4 ?_);refine k1 (k10 ?_)
 exact G5 (K4 rfl rfl) (by repeat (first | exact B2 | refine tail_drop rfl ?_ | refine B3 rfl ?_ | refine J7 _ ?_ | refine D1 _ ?_)) (E2 (L:=[(810,_),(811,_)]) ⟨rfl,rfl,trivial⟩ (by repeat (first | exact D5 | refine D6 rfl ?_ | refine P7 _ ?_))) ⟨rfl,rfl⟩
theorem I12 {gf:Fr} {ob:Obs} (s:Str) (a d:Nat) (c:UInt8) (h:s[a]?=some c) (hs:s.length≤1000) (h0:B9 ob 810=some (S8 s a d)) :
  AL.Met Tryz.prog 193 [X3] gf ob [] (fun rs ob'=>rs=[b8 c]∧ob'=(810,S8 s (a+1) d)::ob):=by
 have hlt:=(List.getElem?_eq_some_iff.1 h).1
 have:=I66 (gf:=gf) s a d hlt hs h0
 rwa [show s.getD a 0=c by rw [J21,h];rfl] at this
theorem I68 {gf:Fr} {ob:Obs} (s:Str) (a d:Nat) (c:UInt8) (h:s[a]?=some c) (hs:s.length≤1000) (h0:B9 ob 810=some (S8 s a d)) :
  AL.Met Tryz.prog 97 [X3,b8 c] gf ob [] (fun rs ob'=>rs=[B07 true]∧ob'=(810,S8 s (a+1) d)::ob):=by
 have hlt:=(List.getElem?_eq_some_iff.1 h).1
 have:=F37 (gf:=gf) s a d c (by omega) hs h0
 rwa [if_pos h,decide_eq_true h] at this
theorem I69 {gf:Fr} {ob:Obs} (s:Str) (a d:Nat) (c:UInt8) (h:¬s[a]?=some c) (ha:a≤s.length) (hs:s.length≤1000) (h0:B9 ob 810=some (S8 s a d)) :
  AL.Met Tryz.prog 97 [X3,b8 c] gf ob [] (fun rs ob'=>rs=[B07 false]∧ob'=(810,S8 s a d)::ob):=by
 have:=F37 (gf:=gf) s a d c ha hs h0
 rwa [if_neg h,decide_eq_false h] at this
theorem G97 {gf:Fr} {ob:Obs} (s:Str) (a d:Nat) (l:List AL.Node) (h:s[a]?=some 97) (hs:s.length≤1000) (hl:l.length≤1000) (h0:B9 ob 810=some (S8 s a d)) (h1:B9 ob 811=some (U3 l)) :
  AL.Met Tryz.prog 180 [X3] gf ob [811] (fun rs ob'=>rs=[N0 l.length]∧ob'=(810,S8 s (a+1) d)::(811,U3 (l++[⟨1,⟨0,8589934592,0,0⟩,0,0,[]⟩]))::Obs.forget 811 ob):=by
 refine AL.Met.introH Tryz.func180 (by decide) rfl rfl rfl (fun hH=>?_)
 refine D8 (I92 811 (l:=[(0,.s X3)]) (L:=[(810,_),(811,_)]) ⟨le1 rfl,trivial⟩ hH (by repeat (first | exact B2 | refine B3 rfl ?_)) ⟨h0,h1,trivial⟩) ?_
 refine k2 (A2 (A6 V V (A4 ?_)));refine k1 (k2 (A2 (A3 V V (A5 (D82 V) V (A3 V V (L1 (I12 s a d 97 h hs V) V V V ?_))))));rintro _ _ ⟨rfl,rfl⟩;refine D3 (I11) V V V ?_;rintro _ rfl;refine L1 (I67 s (a+1) d l ⟨0,8589934592,0,0⟩ hl V V) V V V ?_;rintro _ _ ⟨rfl,rfl⟩;refine A6 V V (A4 ?_);refine k1 (k10 ?_)
 exact G5 (K4 rfl rfl) (by repeat (first | exact B2 | refine tail_drop rfl ?_ | refine B3 rfl ?_ | refine J7 _ ?_ | refine D1 _ ?_)) (E2 (L:=[(810,_),(811,_)]) ⟨rfl,rfl,trivial⟩ (by repeat (first | exact D5 | refine D6 rfl ?_ | refine P7 _ ?_))) ⟨rfl,rfl⟩
theorem G98 {gf:Fr} {ob:Obs} (s:Str) (a d:Nat) (h:s[a]?=some 43) (hs:s.length≤1000) (h0:B9 ob 810=some (S8 s a d)) :
  AL.Met Tryz.prog 158 [X3] gf ob [] (fun rs ob'=>rs=[N0 1,N0 (-1),B07 true]∧ob'=(810,S8 s (a+1) d)::ob):=by
 have hlt:=(List.getElem?_eq_some_iff.1 h).1
 refine AL.Met.introH Tryz.func158 (by decide) rfl rfl rfl (fun hH=>?_)
 refine D8 (I91 (l:=[(0,.s X3)]) (ob':=(810,S8 s a d)::ob) ⟨le1 rfl,trivial⟩ hH (by repeat (first | exact B2 | refine B3 rfl ?_)) (E2 (L:=[(810,_)]) ⟨h0,trivial⟩ D5)) ?_
 refine k2 (A2 (A6 V V (A6 V V (A6 V V (A4 ?_)))));refine k1 (k2 (k3 (k2 (A2 (A3 V V (L1 (I69 s a d 42 (by rw [h];decide) (by omega) hs V) V V V ?_))))));rintro _ _ ⟨rfl,rfl⟩;refine A6 V V (A4 ?_);refine k1 ?_;refine B0 rfl (fun ht=>?_) (fun ht=>?_)
 ·cases ht
 refine k2 (A2 (A3 V V (L1 (I68 s a d 43 h hs V) V V V ?_)));rintro _ _ ⟨rfl,rfl⟩;refine A6 V V (A4 ?_);refine k1 ?_;refine B0 rfl (fun ht=>?_) (fun ht=>?_)
 ·refine k2 (A2 (A6 V V (A6 V V (A6 V V (A4 ?_)))));refine k1 (k10 (k12 (k11 ?_)))
  exact G5 (rets3 rfl rfl rfl rfl) (by repeat (first | exact B2 | refine B3 rfl ?_ | refine D1 _ ?_)) (E2 (L:=[(810,_)]) ⟨rfl,trivial⟩ (by repeat (first | exact D5 | refine D6 rfl ?_))) ⟨rfl,rfl⟩
 ·cases ht
set_option maxHeartbeats 1000000
theorem G17 {gf:Fr} {ob:Obs} (s:Str) (a d:Nat) (l:List AL.Node) (kind:Int) (h:s[a+1]?=some 97) (hs:s.length≤1000) (hl:l.length≤1000) (h0:B9 ob 810=some (S8 s a d)) (h1:B9 ob 811=some (U3 l)) :
  AL.Met Tryz.prog 156 [X3,N0 kind] gf ob [811] (fun rs ob'=>rs=[N0 l.length]∧ob'=(810,S8 s (a+1) d)::(811,U3 (l++[⟨kind,⟨0,0,0,0⟩,0,0,[]⟩]))::Obs.forget 811 ob):=by
 have hlt:=(List.getElem?_eq_some_iff.1 h).1
 refine AL.Met.introH Tryz.func156 (by decide) rfl rfl rfl (fun hH=>?_)
 refine D8 (I92 811 (l:=[(0,.s X3),(1,.s (N0 kind))]) (L:=[(810,_),(811,_)]) ⟨le1 rfl,le1 rfl,trivial⟩ hH (by repeat (first | exact B2 | refine B3 rfl ?_)) ⟨h0,h1,trivial⟩) ?_
 refine k2 (A2 (A6 V V (A4 ?_)));refine k1 (k2 (A2 (A3 V V (A5 (B4 V) V (A5 (A7 V) V (G4 V V V V (D2 V V V (A5 (B4 V) V (A5 (A7 V) V (G8 (C1 TySz.out V V V V V V) (A4 ?_)))))))))));refine k1 (k2 (A2 (A3 V V (A3 V V (A5 (K1 V) V (F11 ((J00 Int 1 E3 17 7 V V)) (L1 (B35 s (a+1) d l ⟨kind,⟨0,0,0,0⟩,0,0,[]⟩ hl V V) V V V ?_)))))));rintro _ _ ⟨rfl,rfl⟩;refine A6 V V (A4 ?_);refine k1 (k2 (k2 (A2 (A3 V V (L1 (B34 s (a+1) d (by omega) hs V) V V V ?_)))));rintro _ _ ⟨rfl,rfl⟩;refine A3 V V (H6 V V V (H6 V V V (A6 V V (A6 V V (A4 ?_)))))
 rw [decide_eq_true hlt,show s.getD (a+1) 0=97 by rw [J21,h];rfl]
 refine k1 (k2 (A2 (A3 V V (A3 V V (H0 V V V V (A3 V V (H0 V V V V (D3 (F29 [42,43,63,123] 97) V V V ?_))))))));rintro _ rfl;refine H0 V V V V (A5 (W5 V V) V (A5 (Y1 V (rfl) V) V (A4 ?_)));refine k1 ?_;refine B0 rfl (fun ht=>?_) (fun ht=>?_)
 ·exact absurd (A0 ht) (by decide)
 refine k5 (k1 (k2 (A2 (A3 V V (A6 V V (A4 ?_))))));refine k1 (k10 ?_)
 exact G5 (K4 rfl rfl) (by repeat (first | exact B2 | refine tail_drop rfl ?_ | refine B3 rfl ?_ | refine J7 _ ?_ | refine D1 _ ?_)) (E2 (L:=[(810,_),(811,_)]) ⟨rfl,rfl,trivial⟩ (by repeat (first | exact D5 | refine D6 rfl ?_ | refine P7 _ ?_))) ⟨rfl,rfl⟩
theorem G18 {gf:Fr} {ob:Obs} (s:Str) (a d:Nat) (l:List AL.Node) (kind:Int) (h:a+1=s.length) (hs:s.length≤1000) (hl:l.length≤1000) (h0:B9 ob 810=some (S8 s a d)) (h1:B9 ob 811=some (U3 l)) :
  AL.Met Tryz.prog 156 [X3,N0 kind] gf ob [811] (fun rs ob'=>rs=[N0 l.length]∧ob'=(810,S8 s (a+1) d)::(811,U3 (l++[⟨kind,⟨0,0,0,0⟩,0,0,[]⟩]))::Obs.forget 811 ob):=by
 refine AL.Met.introH Tryz.func156 (by decide) rfl rfl rfl (fun hH=>?_)
 refine D8 (I92 811 (l:=[(0,.s X3),(1,.s (N0 kind))]) (L:=[(810,_),(811,_)]) ⟨le1 rfl,le1 rfl,trivial⟩ hH (by repeat (first | exact B2 | refine B3 rfl ?_)) ⟨h0,h1,trivial⟩) ?_
 refine k2 (A2 (A6 V V (A4 ?_)));refine k1 (k2 (A2 (A3 V V (A5 (B4 V) V (A5 (A7 V) V (G4 V V V V (D2 V V V (A5 (B4 V) V (A5 (A7 V) V (G8 (C1 TySz.out V V V V V V) (A4 ?_)))))))))));refine k1 (k2 (A2 (A3 V V (A3 V V (A5 (K1 V) V (F11 ((J00 Int 1 E3 17 7 V V)) (L1 (B35 s (a+1) d l ⟨kind,⟨0,0,0,0⟩,0,0,[]⟩ hl V V) V V V ?_)))))));rintro _ _ ⟨rfl,rfl⟩;refine A6 V V (A4 ?_);refine k1 (k2 (k2 (A2 (A3 V V (L1 (B34 s (a+1) d (by omega) hs V) V V V ?_)))));rintro _ _ ⟨rfl,rfl⟩;refine A3 V V (H6 V V V (H6 V V V (A6 V V (A6 V V (A4 ?_)))))
 rw [decide_eq_false (show ¬a+1 < s.length by omega)]
 refine k1 (k2 (A2 (A3 V V (A3 V V (L7 V V V (by decide) V (L7 V V V (by decide) V (L7 V V V (by decide) V (A5 (A65 V (rfl) V) V (A4 ?_)))))))));refine k1 ?_;refine B0 rfl (fun ht=>?_) (fun ht=>?_)
 ·cases ht
 refine k5 (k1 (k2 (A2 (A3 V V (A6 V V (A4 ?_))))));refine k1 (k10 ?_)
 exact G5 (K4 rfl rfl) (by repeat (first | exact B2 | refine tail_drop rfl ?_ | refine B3 rfl ?_ | refine J7 _ ?_ | refine D1 _ ?_)) (E2 (L:=[(810,_),(811,_)]) ⟨rfl,rfl,trivial⟩ (by repeat (first | exact D5 | refine D6 rfl ?_ | refine P7 _ ?_))) ⟨rfl,rfl⟩
theorem G99 {gf:Fr} {ob:Obs} :
  AL.Met Tryz.prog 157 [X3,b8 97] gf ob [] (fun rs ob'=>rs=[.one (.clo 180 [(810,0)] [])]∧ob'=ob):=by
 refine AL.Met.intro Tryz.func157 (by decide) V V V ?_
 refine k2 (A2 (A6 V V (A4 ?_)));refine k1 (k2 (k2 (A2 (A3 V V (A4 ?_)))));refine k1 (k3 (k2 (A2 (A5 (F7 V V) V (A6 V V (A4 ?_))))));refine k1 ?_;refine B0 rfl (fun ht=>?_) (fun ht=>?_)
 ·exact absurd (A0 ht) (by decide)
 refine k2 (A2 (A5 (F7 V V) V (A6 V V (A4 ?_))));refine k1 ?_;refine B0 rfl (fun ht=>?_) (fun ht=>?_)
 ·exact absurd (A0 ht) (by decide)
 refine k2 (A2 (A5 (F7 V V) V (A6 V V (A4 ?_))));refine k1 ?_;refine B0 rfl (fun ht=>?_) (fun ht=>?_)
 ·exact absurd (A0 ht) (by decide)
 refine k2 (A2 (A5 (F7 V V) V (A6 V V (A4 ?_))));refine k1 ?_;refine B0 rfl (fun ht=>?_) (fun ht=>?_)
 ·exact absurd (A0 ht) (by decide)
 refine k2 (k2 (A2 (A5 (F7 V V) V (A6 V V (A4 ?_)))));refine k1 ?_;refine B0 rfl (fun ht=>?_) (fun ht=>?_)
 ·exact absurd (A0 ht) (by decide)
 refine k2 (A2 (A5 (F7 V V) V (A6 V V (A4 ?_))));refine k1 ?_;refine B0 rfl (fun ht=>?_) (fun ht=>?_)
 ·exact absurd (A0 ht) (by decide)
 refine k2 (A2 (A5 (F7 V V) V (A6 V V (A4 ?_))));refine k1 ?_;refine B0 rfl (fun ht=>?_) (fun ht=>?_)
 ·exact absurd (A0 ht) (by decide)
 skip
 refine A2 (A5 (F7 V V) V (A6 V V (A4 ?_)));refine k1 ?_;refine B0 rfl (fun ht=>?_) (fun ht=>?_)
 ·exact absurd (A0 ht) (by decide)
 refine k5 (k2 (A2 (A3 V V (A5 (A08 V V) V (A6 V V (A4 ?_))))));refine k1 (k10 ?_)
 exact G5 (K4 rfl rfl) (by repeat (first | exact B2 | refine B3 rfl ?_ | refine D1 _ ?_)) (fun _ _ h=>h) ⟨rfl,rfl⟩
set_option maxHeartbeats 1000000
theorem D97 {gf:Fr} {ob:Obs} (s:Str) (a d:Nat) (l:List AL.Node) (h:s[a+1]?=some 97) (hs:s.length≤1000) (hl:l.length≤900) (h0:B9 ob 810=some (S8 s a d)) (h1:B9 ob 811=some (U3 l)) :
  AL.Met Tryz.prog 134 [X3,b8 94] gf ob [811] (fun rs ob'=>rs=[N0 l.length]∧ob'=(810,S8 s (a+1) d)::(811,U3 (l++[⟨2,⟨0,0,0,0⟩,0,0,[]⟩]))::Obs.forget 811 ob):=by
 refine AL.Met.introH Tryz.func134 (by decide) rfl rfl rfl (fun hH=>?_)
 refine D8 (I92 811 (l:=[(0,.s X3),(1,.s (b8 94))]) (L:=[(810,_),(811,_)]) ⟨le1 rfl,le1 rfl,trivial⟩ hH (by repeat (first | exact B2 | refine B3 rfl ?_)) ⟨h0,h1,trivial⟩) ?_
 refine k2 (A2 (A6 V V (A4 ?_)));refine k1 (k2 (k2 (A2 (A3 V V (A4 ?_)))));refine k1 (k3 (k2 (A2 (A5 (F7 V V) V (A6 V V (A4 ?_))))));refine k1 ?_;refine B0 rfl (fun ht=>?_) (fun ht=>?_)
 ·refine k2 (A2 (A3 V V (L1 (G17 s a d l 2 h hs (by omega) V V) V V V ?_)));rintro _ _ ⟨rfl,rfl⟩;refine A6 V V (A4 ?_);refine k1 (k10 (k12 (k11 ?_)))
  exact G5 (K4 rfl rfl) (by repeat (first | exact B2 | refine tail_drop rfl ?_ | refine B3 rfl ?_ | refine J7 _ ?_ | refine D1 _ ?_)) (E2 (L:=[(810,_),(811,_)]) ⟨rfl,rfl,trivial⟩ (by repeat (first | exact D5 | refine D6 rfl ?_ | refine P7 _ ?_))) ⟨rfl,rfl⟩
 ·cases ht
theorem F38 {gf:Fr} {ob:Obs} (s:Str) (a d:Nat) (l:List AL.Node) (h:a+1=s.length) (hs:s.length≤1000) (hl:l.length≤900) (h0:B9 ob 810=some (S8 s a d)) (h1:B9 ob 811=some (U3 l)) :
  AL.Met Tryz.prog 134 [X3,b8 36] gf ob [811] (fun rs ob'=>rs=[N0 l.length]∧ob'=(810,S8 s (a+1) d)::(811,U3 (l++[⟨3,⟨0,0,0,0⟩,0,0,[]⟩]))::Obs.forget 811 ob):=by
 refine AL.Met.introH Tryz.func134 (by decide) rfl rfl rfl (fun hH=>?_)
 refine D8 (I92 811 (l:=[(0,.s X3),(1,.s (b8 36))]) (L:=[(810,_),(811,_)]) ⟨le1 rfl,le1 rfl,trivial⟩ hH (by repeat (first | exact B2 | refine B3 rfl ?_)) ⟨h0,h1,trivial⟩) ?_
 refine k2 (A2 (A6 V V (A4 ?_)));refine k1 (k2 (k2 (A2 (A3 V V (A4 ?_)))));refine k1 (k3 (k2 (A2 (A5 (F7 V V) V (A6 V V (A4 ?_))))));refine k1 ?_;refine B0 rfl (fun ht=>?_) (fun ht=>?_)
 ·exact absurd (A0 ht) (by decide)
 refine k2 (A2 (A5 (F7 V V) V (A6 V V (A4 ?_))));refine k1 ?_;refine B0 rfl (fun ht=>?_) (fun ht=>?_)
 ·refine k2 (A2 (A3 V V (L1 (G18 s a d l 3 h hs (by omega) V V) V V V ?_)));rintro _ _ ⟨rfl,rfl⟩;refine A6 V V (A4 ?_);refine k1 (k10 (k12 (k11 ?_)))
  exact G5 (K4 rfl rfl) (by repeat (first | exact B2 | refine tail_drop rfl ?_ | refine B3 rfl ?_ | refine J7 _ ?_ | refine D1 _ ?_)) (E2 (L:=[(810,_),(811,_)]) ⟨rfl,rfl,trivial⟩ (by repeat (first | exact D5 | refine D6 rfl ?_ | refine P7 _ ?_))) ⟨rfl,rfl⟩
 ·cases ht
theorem H00 {gf:Fr} {ob:Obs} (s:Str) (a d:Nat) (l:List AL.Node) (h:s[a]?=some 97) (h2:s[a+1]?=some 43) (hs:s.length≤1000) (hl:l.length≤900) (h0:B9 ob 810=some (S8 s a d)) (h1:B9 ob 811=some (U3 l)) :
  AL.Met Tryz.prog 134 [X3,b8 97] gf ob [811] (fun rs ob'=>rs=[N0 (l.length+1)]∧ob'=(810,S8 s (a+2) d)::(811,U3 (l++[⟨1,⟨0,8589934592,0,0⟩,0,0,[]⟩]++[⟨6,⟨0,0,0,0⟩,1,-1,[(l.length:Int)]⟩]))::Obs.forget 811 ob):=by
 have hl1:(((l++[⟨1,⟨0,8589934592,0,0⟩,0,0,[]⟩]:List AL.Node)).length:Int)=(l.length:Int)+1:=by rw [J20,List.length_singleton];rfl
 have hll:((l++[⟨1,⟨0,8589934592,0,0⟩,0,0,[]⟩]:List AL.Node)).length≤1000:=by rw [J20,List.length_singleton];omega
 refine AL.Met.introH Tryz.func134 (by decide) rfl rfl rfl (fun hH=>?_)
 refine D8 (I92 811 (l:=[(0,.s X3),(1,.s (b8 97))]) (L:=[(810,_),(811,_)]) ⟨le1 rfl,le1 rfl,trivial⟩ hH (by repeat (first | exact B2 | refine B3 rfl ?_)) ⟨h0,h1,trivial⟩) ?_
 refine k2 (A2 (A6 V V (A4 ?_)));refine k1 (k2 (k2 (A2 (A3 V V (A4 ?_)))));refine k1 (k3 (k2 (A2 (A5 (F7 V V) V (A6 V V (A4 ?_))))));refine k1 ?_;refine B0 rfl (fun ht=>?_) (fun ht=>?_)
 ·exact absurd (A0 ht) (by decide)
 refine k2 (A2 (A5 (F7 V V) V (A6 V V (A4 ?_))));refine k1 ?_;refine B0 rfl (fun ht=>?_) (fun ht=>?_)
 ·exact absurd (A0 ht) (by decide)
 refine k5 (k2 (A2 (A3 V V (A3 V V (L1 (G99) V V V ?_)))));rintro _ _ ⟨rfl,rfl⟩;refine A6 V V (A4 ?_);refine k1 (k2 (A2 (A3 V V (B21 (G97 s a d l h hs (by omega) V V) V V V V ?_))));rintro _ _ ⟨rfl,rfl⟩;refine A6 V V (A4 ?_);refine k1 (k2 (A2 (A3 V V (L1 (G98 s (a+1) d h2 hs V) V V V ?_))));rintro _ _ ⟨rfl,rfl⟩;refine A3 V V (H6 V V V (H6 V V V (H6 V V V (A6 V V (A6 V V (A6 V V (A4 ?_)))))));refine k1 (k2 (k2 (A2 (A3 V V (A5 (U2 V) V (A4 ?_))))));refine k1 ?_;refine B0 rfl (fun ht=>?_) (fun ht=>?_)
 ·cases ht
 refine k5 (k1 (k2 (A2 (A3 V V (A3 V V (A3 V V (A3 V V (A5 (C3 (c:=E3) (ys:=[(l.length:Int)]) (D4 V V V V F9) V V V) V (A5 (K1 V) V (L1 (B35 s (a+2) d (l++[⟨1,⟨0,8589934592,0,0⟩,0,0,[]⟩]) ⟨6,⟨0,0,0,0⟩,1,-1,[(l.length:Int)]⟩ hll V V) V V V ?_))))))))));rintro _ _ ⟨rfl,rfl⟩;refine A6 V V (A4 ?_)
 rw [hl1]
 refine k1 (k10 ?_)
 exact G5 (K4 rfl rfl) (by repeat (first | exact B2 | refine tail_drop rfl ?_ | refine B3 rfl ?_ | refine J7 _ ?_ | refine D1 _ ?_)) (E2 (L:=[(810,_),(811,_)]) ⟨rfl,rfl,trivial⟩ (by repeat (first | exact D5 | refine D6 rfl ?_ | refine P7 _ ?_))) ⟨rfl,rfl⟩
set_option maxHeartbeats 1000000
theorem H01 {gf:Fr} {ob:Obs} (s:Str) (a d:Nat) (l:List AL.Node) (kind:Int) (kids:List Int) (h2:2≤kids.length) (hl:l.length≤1000) (h0:B9 ob 810=some (S8 s a d)) (h1:B9 ob 811=some (U3 l)) :
  AL.Met Tryz.prog 98 [X3,N0 kind,.one (.p (.list Int 1 E3 kids))] gf ob [811] (fun rs ob'=>rs=[N0 l.length]∧ob'=(810,S8 s a d)::(811,U3 (l++[⟨kind,⟨0,0,0,0⟩,0,0,kids⟩]))::Obs.forget 811 ob):=by
 refine AL.Met.introH Tryz.func98 (by decide) rfl rfl rfl (fun hH=>?_)
 refine D8 (I92 811 (l:=[(0,.s X3),(1,.s (N0 kind)),(2,C6 Int 1 E3 kids)]) (L:=[(810,_),(811,_)]) ⟨le1 rfl,le1 rfl,le1 rfl,trivial⟩ hH (by repeat (first | exact B2 | refine B3 rfl ?_)) ⟨h0,h1,trivial⟩) ?_
 refine k2 (A2 (A6 V V (A4 ?_)));refine k1 (k2 (k2 (A2 (A3 V V (E0 V V (A4 ?_))))));refine k1 (k3 (k2 (A2 (A5 (F7 V V) V (A6 V V (A4 ?_))))));refine k1 ?_;refine B0 rfl (fun ht=>?_) (fun ht=>?_)
 ·have:=A0 ht
  omega
 refine k2 (A2 (A5 (F7 V V) V (A6 V V (A4 ?_))));refine k1 ?_;refine B0 rfl (fun ht=>?_) (fun ht=>?_)
 ·have:=A0 ht
  omega
 refine k5 (k2 (A2 (A3 V V (A3 V V (A3 V V (A5 (K1 V) V (L1 (B35 s a d l ⟨kind,⟨0,0,0,0⟩,0,0,kids⟩ hl V V) V V V ?_)))))));rintro _ _ ⟨rfl,rfl⟩;refine A6 V V (A4 ?_);refine k1 (k10 ?_)
 exact G5 (K4 rfl rfl) (by repeat (first | exact B2 | refine tail_drop rfl ?_ | refine B3 rfl ?_ | refine J7 _ ?_ | refine D1 _ ?_)) (E2 (L:=[(810,_),(811,_)]) ⟨rfl,rfl,trivial⟩ (by repeat (first | exact D5 | refine D6 rfl ?_ | refine P7 _ ?_))) ⟨rfl,rfl⟩
theorem H02 {gf:Fr} {ob:Obs} (kind x:Int) :
  AL.Met Tryz.prog 98 [X3,N0 kind,.one (.p (.list Int 1 E3 [x]))] gf ob [] (fun rs ob'=>rs=[N0 x]∧ob'=ob):=by
 have hv:[x][Int.toNat 0]?=some x:=rfl
 refine AL.Met.intro Tryz.func98 (by decide) V V V ?_
 refine k2 (A2 (A6 V V (A4 ?_)));refine k1 (k2 (k2 (A2 (A3 V V (E0 V V (A4 ?_))))));refine k1 (k3 (k2 (A2 (A5 (F7 V V) V (A6 V V (A4 ?_))))));refine k1 ?_;refine B0 rfl (fun ht=>?_) (fun ht=>?_)
 ·exact absurd (A0 ht) (by simp)
 refine k2 (A2 (A5 (F7 V V) V (A6 V V (A4 ?_))));refine k1 ?_;refine B0 rfl (fun ht=>?_) (fun ht=>?_)
 ·refine k2 (A2 (A3 V V (A5 (A9 V (.pure _ _ _ _) V (by omega) hv) V (A5 (A8 V V) V (A6 V V (A4 ?_))))));refine k1 (k10 (k12 (k11 ?_)))
  exact G5 (K4 rfl rfl) (by repeat (first | exact B2 | refine B3 rfl ?_ | refine D1 _ ?_)) (fun _ _ h=>h) ⟨rfl,rfl⟩
 ·exact absurd rfl (A1 ht)
set_option maxHeartbeats 1000000
abbrev pat4:Str:=[94,97,43,36]
abbrev ndS:AL.Node:=⟨2,⟨0,0,0,0⟩,0,0,[]⟩
abbrev ndA:AL.Node:=⟨1,⟨0,8589934592,0,0⟩,0,0,[]⟩
abbrev ndR:AL.Node:=⟨6,⟨0,0,0,0⟩,1,-1,[1]⟩
abbrev ndE:AL.Node:=⟨3,⟨0,0,0,0⟩,0,0,[]⟩
abbrev ndC:AL.Node:=⟨4,⟨0,0,0,0⟩,0,0,[0,2,3]⟩
def atI:Nat→Nat
 | 0=>0
 | 1=>1
 | 2=>3
 | _=>4
def H03:Nat→List AL.Node
 | 0=>[]
 | 1=>[ndS]
 | 2=>[ndS,ndA,ndR]
 | _=>[ndS,ndA,ndR,ndE]
def kidI:Nat→Int
 | 0=>0
 | 1=>2
 | _=>3
def G19:Nat→List Int
 | 0=>[]
 | 1=>[0]
 | 2=>[0,2]
 | _=>[0,2,3]
theorem three {p:Nat→Prop} (h0:p 0) (h1:p 1) (h2:p 2):∀i,i < 3→p i
 | 0,_=>h0
 | 1,_=>h1
 | 2,_=>h2
theorem H04:∀i,i < 3→G19 i++[kidI i]=G19 (i+1):=three rfl rfl rfl
theorem I13:∀i,i < 3→(G19 i).length < 3:=three (by decide) (by decide) (by decide)
theorem atI_len:∀i,i < 3→atI i < pat4.length∧pat4.getD (atI i) 0≠124∧pat4.getD (atI i) 0≠41:=three (by decide) (by decide) (by decide)
theorem H05 {gf:Fr} {ob:Obs} (d:Nat) (i:Nat) (hi:i < 3) (h0:B9 ob 810=some (S8 pat4 (atI i) d)) (h1:B9 ob 811=some (U3 (H03 i))) :
  AL.Met Tryz.prog 134 [X3,b8 (pat4.getD (atI i) 0)] gf ob [811] (fun rs ob'=>rs=[N0 (kidI i)]∧ob'=(810,S8 pat4 (atI (i+1)) d)::(811,U3 (H03 (i+1)))::Obs.forget 811 ob):=by
 match i,hi with
 | 0,_=>exact D97 pat4 0 d [] rfl (by decide) (by decide) h0 h1
 | 1,_=>exact H00 pat4 1 d [ndS] rfl rfl (by decide) (by decide) h0 h1
 | 2,_=>exact F38 pat4 3 d [ndS,ndA,ndR] rfl (by decide) (by decide) h0 h1
theorem D98 (k q:Nat) (o:Ob):(o.forget q).forget k=(o.forget k).forget q:=by
 cases o with
 | box l=>simp only [Ob.forget,J50];congr 1;exact List.map_congr_left fun t _=>TC.forget_comm k q t
 | tbx e l=>simp only [Ob.forget,J50];congr 1;exact List.map_congr_left fun t _=>TC.forget_comm k q t
 | tarr n m l=>simp only [Ob.forget,J50];congr 1;exact List.map_congr_left fun t _=>TC.forget_comm k q t
 | growT e n m l=>simp only [Ob.forget,J50];congr 1;exact List.map_congr_left fun t _=>TC.forget_comm k q t
 | growA e α ec c xs p l=>simp only [Ob.forget,J50];congr 1;exact List.map_congr_left fun t _=>TC.forget_comm k q t
 | _=>rfl
theorem B08 (k q:Nat) (ob:Obs):Obs.forget k (Obs.forget q ob)=Obs.forget q (Obs.forget k ob):=by
 simp only [Obs.forget,J50,Function.comp_def,D98 k q]
theorem D99 {K:List Nat} {T ob:Obs} (j k:Nat) (h:∀i x,M4 K i=false→B9 (Obs.forget j (Obs.forget k ob)) i=some x→B9 T i=some x) :
  ∀i x,M4 K i=false→B9 (Obs.forget j (Obs.forget k ob)) i=some x→B9 (Obs.forget k T) i=some x:=by
 rw [B08] at h ⊢
 exact P7 k h
theorem I70 {gf:Fr} {ob:Obs} (d:Nat) (hf:B9 ob 812=none) (h0:B9 ob 810=some (S8 pat4 0 d)) (h1:B9 ob 811=some (U3 [])) :
  AL.Met Tryz.prog 96 [X3] gf ob [811,812] (fun rs ob'=>rs=[N0 4]∧ob'=(810,S8 pat4 4 d)::(811,U3 [ndS,ndA,ndR,ndE,ndC])::(812,.spare 3 1 3)::Obs.forget 812 (Obs.forget 811 ob)):=by
 refine AL.Met.introH Tryz.func96 (by decide) rfl rfl rfl (fun hH=>?_)
 refine D8 (I92 811 (l:=[(0,.s X3)]) (L:=[(810,_),(811,_)]) ⟨le1 rfl,trivial⟩ hH (by repeat (first | exact B2 | refine B3 rfl ?_)) ⟨h0,h1,trivial⟩) ?_
 have hf2:B9 ([(810,S8 pat4 0 d),(811,U3 [])]++Obs.forget 811 ob) 812=none:=by
  show B9 (Obs.forget 811 ob) 812=none
  rw [J5,hf];rfl
 refine k2 (A2 (A6 V V (A4 ?_)));refine k1 (k2 (A2 (A6 V V (A4 ?_))));refine D8 (J11 812 Int 1 E3 3 (t:=3) V hf2 V) ?_
 refine k3 ?_;refine C5 (X:=Nat) (fun i=>([(0,.s X3),(3,.s (.one (.buf 812 Int 1 E3 (G19 i))))]++C7 [811,812] gf,[(810,S8 pat4 (atI i) d),(811,U3 (H03 i)),(812,.spare (G19 i).length 1 3)]++Obs.forget 812 (Obs.forget 811 ob))) (fun i=>i≤3) (fun i=>3 - i) 0 (Nat.zero_le _) ?_ ?_
 ·exact I91 ⟨le1 rfl,le1 rfl,trivial⟩ (E9 hH) (by repeat (first | exact B2 | refine B3 rfl ?_ | refine D1 _ ?_)) (E2 (L:=[(810,_),(811,_),(812,_)]) ⟨rfl,rfl,rfl,trivial⟩ (by repeat (first | exact D5 | refine D6 rfl ?_ | refine P7 _ ?_)))
 intro i hi
 dsimp only at hi ⊢
 have hat:atI i≤pat4.length:=by
  match i,hi with
  | 0,_=>decide
  | 1,_=>decide
  | 2,_=>decide
  | 3,_=>decide
 refine k3 (k2 (A2 (A3 V V (L1 (B34 pat4 (atI i) d hat (by decide) V) V V V ?_))));rintro _ _ ⟨rfl,rfl⟩;refine A3 V V (H6 V V V (H6 V V V (A6 V V (A6 V V (A4 ?_)))));refine k1 (k2 (k2 (A2 (A3 V V (A5 (U2 V) V (A3 V V (B1 V V V V (fun hg=>by rw [hg];exact B7 V V) ?_)))))));refine B1 V V V V (fun hg=>by rw [hg];exact F7 V V) ?_;refine I6 V V ?_;refine A3 V V (B1 V V V V (fun hg=>by rw [hg];exact B7 V V) ?_);refine B1 V V V V (fun hg=>by rw [hg];exact F7 V V) ?_;refine I6 V V ?_;refine A4 ?_;refine k1 ?_
 by_cases h3:i=3
 ·subst h3
  refine B0 rfl (fun ht=>?_) (fun ht=>?_)
  ·refine k2 (D8 (Sees.forget 812) ?_)
   refine A2 (A3 V V (A3 V V (L1 (H01 pat4 4 d [ndS,ndA,ndR,ndE] 4 [0,2,3] (by decide) (by decide) V V) V V V ?_)));rintro _ _ ⟨rfl,rfl⟩;refine A6 V V (A4 ?_);refine k1 (k10 (k11 (k12 (k11 (k12 ?_)))))
   exact G5 (K4 rfl rfl) (by repeat (first | exact B2 | refine tail_drop rfl ?_ | refine B3 rfl ?_ | refine H1 _ rfl ?_)) (E2 (L:=[(810,_),(811,_),(812,_)]) ⟨rfl,rfl,rfl,trivial⟩ (by repeat (first | exact D5 | refine D6 rfl ?_ | refine P7 _ ?_ | refine D99 _ _ ?_))) ⟨rfl,rfl⟩
  ·cases ht
 have hi3:i < 3:=by omega
 obtain ⟨ha1,ha2,ha3⟩:=atI_len i hi3
 refine B0 rfl (fun ht=>?_) (fun ht=>?_)
 ·exfalso
  rw [F46,F46,decide_eq_true ha1,decide_eq_false (fun h=>ha2 (UInt8.toNat_inj.1 (by have e:UInt8.toNat 124=124:=rfl;omega))),decide_eq_false (fun h=>ha3 (UInt8.toNat_inj.1 (by have e:UInt8.toNat 41=41:=rfl;omega)))] at ht
  cases ht
 refine k5 (k1 ?_)
 have hkl:=I13 i hi3
 refine A2 (A3 V V (A3 V V (A3 V V (L1 (H05 d i hi3 V V) V V V ?_))));rintro _ _ ⟨rfl,rfl⟩;refine A5 (C3 (c:=E3) (ys:=[kidI i]) (D4 V V V V F9) V V V) V (C9 (I9 V V V (.pure _ _ _ _) (by (simp only [J19,J22];omega)) V) V (A6 V V (A4 ?_)));refine k4 (k1 ?_);refine ⟨i+1,by omega,by omega,?_⟩
 rw [←H04 i hi3]
 exact I91 ⟨le1 rfl,le1 rfl,trivial⟩ (E9 hH) (by repeat (first | exact B2 | refine B3 rfl ?_ | refine H1 _ rfl ?_)) (E2 (L:=[(810,_),(811,_),(812,_)]) ⟨rfl,rfl,rfl,trivial⟩ (by repeat (first | exact D5 | refine D6 rfl ?_ | refine P7 _ ?_ | refine D99 _ _ ?_)))
theorem I71 {gf:Fr} {ob:Obs} (d:Nat) (hf:B9 ob 812=none) (h0:B9 ob 810=some (S8 pat4 0 d)) (h1:B9 ob 811=some (U3 [])) :
  AL.Met Tryz.prog 70 [X3] gf ob [811,812] (fun rs ob'=>rs=[N0 4]∧ob'=(810,S8 pat4 4 d)::(811,U3 [ndS,ndA,ndR,ndE,ndC])::(812,.spare 3 1 3)::Obs.forget 812 (Obs.forget 811 ob)):=by
 refine AL.Met.introH Tryz.func70 (by decide) rfl rfl rfl (fun hH=>?_)
 refine k2 (A2 (A6 V V (A4 ?_)));refine k1 (k2 (A2 (A3 V V (L1 (I70 d hf h0 h1) V V V ?_))));rintro _ _ ⟨rfl,rfl⟩;refine A5 (C3 (c:=E3) (ys:=[(4:Int)]) (D4 V V V V F9) V V V) V (A6 V V (A4 ?_));refine k1 (k2 (k3 ?_));refine C5 (X:=Nat) (fun _=>([(0,.s X3),(3,C6 Int 1 E3 [4])]++C7 [811,812] gf,[(810,S8 pat4 4 d),(811,U3 [ndS,ndA,ndR,ndE,ndC]),(812,.spare 3 1 3)]++Obs.forget 812 (Obs.forget 811 ob))) (fun _=>True) (fun i=>i) 0 trivial ?_ ?_
 ·exact I91 ⟨le1 rfl,le1 rfl,trivial⟩ (E9 hH) (by repeat (first | exact B2 | refine B3 rfl ?_ | refine D1 _ ?_)) (E2 (L:=[(810,_),(811,_),(812,_)]) ⟨rfl,rfl,rfl,trivial⟩ (by repeat (first | exact D5 | refine D6 rfl ?_)))
 intro i _
 dsimp only
 refine k2 (k2 (A2 (A3 V V (L1 (F37 pat4 4 d 124 (by decide) (by decide) V) V V V ?_))));rintro _ _ ⟨rfl,rfl⟩;refine A4 ?_;refine k1 ?_;refine B0 rfl (fun ht=>?_) (fun ht=>?_)
 ·cases ht
 refine k6 (k2 (A2 (A3 V V (A3 V V (L1 (H02 5 4) V V V ?_)))));rintro _ _ ⟨rfl,rfl⟩;refine A6 V V (A4 ?_);refine k1 (k10 ?_)
 exact G5 (K4 rfl rfl) (by repeat (first | exact B2 | refine tail_drop rfl ?_ | refine B3 rfl ?_ | refine H1 _ rfl ?_)) (E2 (L:=[(810,_),(811,_),(812,_)]) ⟨rfl,rfl,rfl,trivial⟩ (by repeat (first | exact D5 | refine D6 rfl ?_ | refine P7 _ ?_ | refine D99 _ _ ?_))) ⟨rfl,rfl⟩
set_option maxHeartbeats 1000000
theorem G20:IdleFn Tryz.prog 69 2:=by
 intro vs w hl
 obtain ⟨x,y,rfl⟩:∃x y,vs=[x,y]:=by
  match vs,hl with
  | [x,y],_=>exact ⟨x,y,rfl⟩
 refine ⟨M8 ⟨_,rfl,rfl,rfl⟩,?_⟩
 have hta:(Instr.typeAssert .nilIface 20 28 true).run Tryz.prog w=.ok (.tuple #[.int .i64 0,.bool false]) w:=by
  simp only [Instr.typeAssert]
  rfl
 refine callsDIn_of_wpSIn Tryz.func69 rfl trivial fun c₀ cs hu=>?_
 simp only [Tryz.ntmps69,List.size_toArray,J19,J22,Nat.reduceAdd,Nat.reduceSub,Array.replicate_succ,Array.replicate_zero,List.push_toArray,List.append_toArray,J54,J37]
 apply wpSIn_seq
 apply wpSIn_region
 simp [wpOpsSIn,go_sem,recoverD,hu,Exit.thenS,hta]
 apply wpSIn_seq
 apply wpSIn_region
 simp [wpOpsSIn,go_sem,Exit.thenS]
 refine wpSIn_cond (t:=false) (by simp [Act.eval]) ?_
 simp only [Bool.false_eq_true,if_false]
 refine wpSIn_of_wpIn rfl (wpIn_skip ?_)
 cases c₀
 simp_all [bodyPostS,results,Tryz.results69]
theorem H56 {P:Program} {fr:Fr} {ob:Obs} {S:Ctx} {G:Gh} {a:Act} {w:World} (h:Sim P S fr ob G a w) {t:Tmp} {k:Nat} {tt:TypeId} {ts:List TC} {c:Cell} [hty:TyOne P tt] (ht:v8 fr t=some (.s (.one (.ref k 0)))) (hk:B9 ob k=some (.box ts)) (h0:ts[0]?=some (.p c)) :
  ∃b z,a.tmps.getD t undef=.pointer (some ⟨b,0,none⟩)∧(loadVar tt ⟨b,0,none⟩).run P w=.ok z w∧(PV.one c).rep (F8 (Mut S ob G) w) z:=by
 obtain ⟨b,hg,hu⟩:=h.slot ht
 obtain ⟨b',vs,tt',hg',hh,ha⟩:=h.box hk
 rw [hg] at hg';cases hg'
 obtain ⟨z,hz1,hz2⟩:=ha.get 0 _ h0
 exact ⟨b,z,hu,S3 (ht:=hty) (N9 hh (by simpa using hz1)),hz2⟩
theorem retcc {P:Program} {fn:Func} {fr:Fr} {ob:Obs} {t t':Tmp} {k k':Nat} {tt tt':TypeId} {ts ts':List TC} {c c':Cell} [TyOne P tt] [TyOne P tt'] (hr:fn.results=#[.cell t tt,.cell t' tt']) (ht:v8 fr t=some (.s (.one (.ref k 0)))) (hk:B9 ob k=some (.box ts)) (h0:ts[0]?=some (.p c))
  (ht':v8 fr t'=some (.s (.one (.ref k' 0)))) (hk':B9 ob k'=some (.box ts')) (h0':ts'[0]?=some (.p c')):RetOk P fn fr ob [.one c,.one c']:=by
 unfold RetOk
 intro S G a w h
 obtain ⟨b,z,h1,h2,h3⟩:=H56 h (tt:=tt) ht hk h0
 obtain ⟨b',z',h1',h2',h3'⟩:=H56 h (tt:=tt') ht' hk' h0'
 rw [Array.getD_eq_getD_getElem?] at h1 h1'
 exact ⟨_,by simp [results,hr,h1,h1',asAddr,h2,h2'],[_,_],rfl,h3,h3',trivial⟩
abbrev nodes5:List AL.Node:=[ndS,ndA,ndR,ndE,ndC]
theorem I14:FnOk Tryz.prog 44 [M3 pat4] (fun rs=>rs=[B54 nodes5,F2 0]):=by
 refine FnOk.intro Tryz.func44 (by decide) V V V V ?_
 refine k2 (A2 (C9 (J4 2 V) V (C9 (J4 3 V) V (A4 ?_))));refine k1 (k2 (k2 (A2 (A3 V V (A5 (J3 V) V (A5 (M5 V V) V (A4 ?_)))))));refine k1 ?_;refine B0 rfl (fun ht=>?_) (fun ht=>?_)
 ·exact absurd (A0 ht) (by decide)
 refine k5 (k1 ?_)
 refine c_defer (caps:=[.tmp 2,.tmp 3]) (nc:=[(2,0),(3,0)]) V V G20 ?_
 refine k2 (A2 (A3 V V (A5 (K1 V) V (C9 (x4 810 V V V) V (A6 V V (A4 ?_))))));refine D8 (I96 811 AL.Node 8 B11 164 (kb:=810) (o:=3) V V V) ?_
 refine k2 (A2 (A3 V V (L1 (I71 0 V V V) V V V ?_)));rintro _ _ ⟨rfl,rfl⟩;refine A4 ?_;refine k1 (k2 (k2 (A2 (A3 V V (A5 (B4 V) V (A5 (A7 V) V (G4 V V V V (A3 V V (A5 (J3 V) V (E8 V V V (A4 ?_)))))))))));refine k1 ?_;refine B0 rfl (fun ht=>?_) (fun ht=>?_)
 ·cases ht
 refine k5 (k1 (k2 (A2 (A3 V V (A5 (B4 V) V (A5 (A7 V) V (G4 V V V V (G8 (C1 TySz.out V V V V V V) (G8 (C1 TySz.out V V V V V V) (A4 ?_))))))))));refine k1 (D8 (Sees.freezeG (k:=811) (α:=AL.Node) (ec:=8) (c:=B11) (xs:=nodes5) (e:=164) rfl rfl) ?_)
 refine k10 ?_
 exact B6 (rs:=[B54 nodes5,F2 0]) (retcc rfl rfl rfl rfl rfl rfl rfl) rfl
set_option maxHeartbeats 1000000
theorem H06:FnOk Tryz.prog 159 [D33 ndR] (fun rs=>rs=[H5 true]):=by
 refine FnOk.intro Tryz.func159 (by decide) V V V V ?_
 refine k2 (A2 (A5 (o6 V V V) V (A6 V V (A4 ?_))));refine k1 (k2 (A2 (A5 (B8 V) V (A5 (A8 V V) V (A5 (W5 V V) V (A3 V V (B1 V V V V (fun hg=>by rw [hg];exact B8 V) ?_)))))));refine B1 V V V V (fun hg=>by rw [hg];exact A8 V V) ?_;refine B1 V V V V (fun hg=>by rw [hg];exact B03 V V) ?_;refine I6 V V ?_;refine A3 V V (B1 V V V V (fun hg=>by rw [hg];exact B8 V) ?_);refine B1 V V V V (fun hg=>by rw [hg];exact A8 V V) ?_;refine B1 V V V V (fun hg=>by rw [hg];exact F7 V V) ?_;refine B1 V V V V (fun hg=>by rw [hg];exact B7 V V) ?_;refine L5 V V V (.gd (.val _)) V (fun hg=>by obtain ⟨hg1,hg2⟩:=N7 hg;(try rw [hg1]);(try rw [hg2]);exact B8 V) ?_;refine L5 V V V (.gd (.val _)) V (fun hg=>by obtain ⟨hg1,hg2⟩:=N7 hg;(try rw [hg1]);(try rw [hg2]);exact A8 V V) ?_;refine L5 V V V (.gd (.val _)) V (fun hg=>by obtain ⟨hg1,hg2⟩:=N7 hg;(try rw [hg1]);(try rw [hg2]);exact B8 V) ?_;refine L5 V V V (.gd (.val _)) V (fun hg=>by obtain ⟨hg1,hg2⟩:=N7 hg;(try rw [hg1]);(try rw [hg2]);exact A8 V V) ?_;refine L5 V V V (.gd (.val _)) V (fun hg=>by obtain ⟨hg1,hg2⟩:=N7 hg;(try rw [hg1]);(try rw [hg2]);exact W5 V V) ?_;refine L5 V V V (.gd (.val _)) V (fun hg=>by obtain ⟨hg1,hg2⟩:=N7 hg;(try rw [hg1]);(try rw [hg2]);exact B7 V V) ?_;refine L5 V V V (.gd (.gd (.val _))) V (fun hg=>by obtain ⟨hg1,hg2,hg3⟩:=F12 hg;(try rw [hg1]);(try rw [hg2]);(try rw [hg3]);exact B8 V) ?_;refine L5 V V V (.gd (.gd (.val _))) V (fun hg=>by obtain ⟨hg1,hg2,hg3⟩:=F12 hg;(try rw [hg1]);(try rw [hg2]);(try rw [hg3]);exact A8 V V) ?_;refine L5 V V V (.gd (.gd (.val _))) V (fun hg=>by obtain ⟨hg1,hg2,hg3⟩:=F12 hg;(try rw [hg1]);(try rw [hg2]);(try rw [hg3]);exact B03 V V) ?_;refine L5 V V V (.gd (.val _)) V (fun hg=>by obtain ⟨hg1,hg2⟩:=N7 hg;(try rw [hg1]);(try rw [hg2]);exact K7 V (fun h=>by first | rfl | (rw [h];rfl)) (fun h=>by first | rfl | (rw [h];rfl))) ?_;refine B1 V V V V (fun hg=>by rw [hg];exact K7 V (fun h=>by first | rfl | (rw [h];rfl)) (fun h=>by first | rfl | (rw [h];rfl))) ?_;refine I6 V V ?_;refine A6 V V (A4 ?_);refine k1 (k10 ?_)
 exact B6 (rs:=[H5 true]) (G7 rfl rfl rfl) rfl
theorem y3 {n:AL.Node} (hn:n∈nodes5):n=ndS∨n=ndA∨n=ndR∨n=ndE∨n=ndC:=by simpa using hn
theorem fits_ok (n:AL.Node) (i:Int) (hn:n∈nodes5) (hk:∀k∈n.Kids,0≤k∧k < i):FnOk Tryz.prog 136 [D33 n,F2 i] (fun rs=>rs=[H5 true]):=by
 have hlen:n.Kids.length≤3:=by rcases y3 hn with h | h | h | h | h<;>rw [h]<;>decide
 refine FnOk.intro Tryz.func136 (by decide) V V V V ?_
 refine k2 (A2 (A5 (o6 V V V) V (A6 V V (A4 ?_))));refine k1 (k2 (k2 (A2 (A5 (B8 V) V (A5 (A8 V V) V (E0 V V (A3 V V (A4 ?_))))))));refine k1 (k3 (C5 (X:=Nat) (fun j=>([(1,C0 i),(2,.s (.one (.eref Unit 8 (fun _ j=>(cellsOf B11 n 0 8).getD j (.v undef)) () 0))),(8,C6 Int 1 E3 n.Kids),(9,C0 n.Kids.length),(10,C0 j)],[])) (fun j=>j≤n.Kids.length) (fun j=>n.Kids.length - j) 0 (Nat.zero_le _) (I90 ⟨le1 rfl,le1 rfl,le1 rfl,le1 rfl,le1 rfl,trivial⟩ trivial) ?_))
 intro j hj
 dsimp only at hj ⊢
 refine k2 (A2 (E8 V V V (A4 ?_)));refine k1 (k2 ?_);refine B0 rfl (fun ht=>?_) (fun ht=>?_)
 ·have hlt:j < n.Kids.length:=by have:=A0 ht;omega
  have hv:=getI hlt
  have hkj:=hk _ (J32 hv)
  refine k5 (k1 (k2 (k3 (k2 (A2 (A5 (A9 V (.pure _ _ _ _) V (by omega) hv) V (A5 (A8 V V) V (A6 V V (A4 ?_)))))))));refine k1 (k2 (A2 (A3 V V (E8 V V V (A3 V V (B1 V V V V (fun hg=>by rw [hg];exact B7 V V) ?_))))));refine B1 V V V V (fun hg=>by rw [hg];exact B7 V V) ?_;refine B1 V V V V (fun hg=>by rw [hg];exact W5 V V) ?_;refine I6 V V ?_;refine A4 ?_;refine k1 ?_;refine B0 rfl (fun ht=>?_) (fun ht=>?_)
  ·simp only [or_pick] at ht
   have:=A0 ht
   omega
  refine k5 (k4 (k1 (A2 (D2 V V V (A3 V V (A4 ?_))))));refine k1 ?_
  exact ⟨j+1,by omega,by omega,I90 ⟨le1 rfl,le1 rfl,le1 rfl,le1 rfl,le1 rfl,trivial⟩ trivial⟩
 refine k6 (k2 (k2 (A2 (A5 (B8 V) V (A5 (A8 V V) V (A4 ?_))))));refine k1 (k3 (k2 (k2 (A2 (A5 (F7 V V) V (A6 V V (A4 ?_)))))));refine k1 ?_
 have hX:=y3 hn
 refine B0 rfl (fun ht=>?_) (fun ht=>?_)
 ·exact absurd (A0 ht) (by rcases hX with h | h | h | h | h<;>rw [h]<;>decide)
 have hK0:=A1 ht
 refine k2 (A2 (A5 (F7 V V) V (A6 V V (A4 ?_))));refine k1 ?_;refine B0 rfl (fun ht=>?_) (fun ht=>?_)
 ·have hK:=A0 ht
  have hT:decide ((n.Kids.length:Int)=0)=true:=by rcases hX with h | h | h | h | h<;>rw [h] at hK ⊢<;>first | rfl | exact absurd hK (by decide)
  refine k5 (k1 ?_);refine B0 rfl (fun ht=>?_) (fun ht=>?_)
  rotate_left
  ·exact absurd hK (A1 ht)
  refine k2 (A2 (A5 (B8 V) V (A5 (A8 V V) V (E0 V V (A5 (F7 V V) V (A6 V V (A4 ?_)))))));refine k1 (k10 (k12 (k11 ?_)))
  exact B6 (G7 rfl rfl rfl) (by rw [hT])
 have hK1:=A1 ht
 refine k2 (A2 (A5 (F7 V V) V (A6 V V (A4 ?_))));refine k1 ?_;refine B0 rfl (fun ht=>?_) (fun ht=>?_)
 ·have hK:=A0 ht
  have hT:decide ((n.Kids.length:Int)=0)=true:=by rcases hX with h | h | h | h | h<;>rw [h] at hK ⊢<;>first | rfl | exact absurd hK (by decide)
  refine k5 (k1 ?_);refine B0 rfl (fun ht=>?_) (fun ht=>?_)
  rotate_left
  ·exact absurd hK (A1 ht)
  refine k2 (A2 (A5 (B8 V) V (A5 (A8 V V) V (E0 V V (A5 (F7 V V) V (A6 V V (A4 ?_)))))));refine k1 (k10 (k12 (k11 ?_)))
  exact B6 (G7 rfl rfl rfl) (by rw [hT])
 have hK2:=A1 ht
 skip
 refine A2 (A5 (F7 V V) V (A6 V V (A4 ?_)));refine k1 ?_;refine B0 rfl (fun ht=>?_) (fun ht=>?_)
 ·have hK:=A0 ht
  have hT:decide ((n.Kids.length:Int)=0)=true:=by rcases hX with h | h | h | h | h<;>rw [h] at hK ⊢<;>first | rfl | exact absurd hK (by decide)
  refine k2 (A2 (A5 (B8 V) V (A5 (A8 V V) V (E0 V V (A5 (F7 V V) V (A6 V V (A4 ?_)))))));refine k1 (k10 (k12 (k11 ?_)))
  exact B6 (G7 rfl rfl rfl) (by rw [hT])
 have hK3:=A1 ht
 refine k2 (k2 (A2 (A5 (F7 V V) V (A6 V V (A4 ?_)))));refine k1 ?_;refine B0 rfl (fun ht=>?_) (fun ht=>?_)
 ·have hK:=A0 ht
  have hT:decide ((n.Kids.length:Int)≥2)=true:=by rcases hX with h | h | h | h | h<;>rw [h] at hK ⊢<;>first | rfl | exact absurd hK (by decide)
  refine k5 (k1 ?_);refine B0 rfl (fun ht=>?_) (fun ht=>?_)
  rotate_left
  ·exact absurd hK (A1 ht)
  refine k2 (A2 (A5 (B8 V) V (A5 (A8 V V) V (E0 V V (A5 (W5 V V) V (A6 V V (A4 ?_)))))));refine k1 (k10 (k12 (k11 ?_)))
  exact B6 (G7 rfl rfl rfl) (by rw [hT])
 have hK4:=A1 ht
 skip
 refine A2 (A5 (F7 V V) V (A6 V V (A4 ?_)));refine k1 ?_;refine B0 rfl (fun ht=>?_) (fun ht=>?_)
 ·exact absurd (A0 ht) (by rcases hX with h | h | h | h | h<;>rw [h]<;>decide)
 refine k2 (A2 (A5 (F7 V V) V (A6 V V (A4 ?_))));refine k1 ?_;refine B0 rfl (fun ht=>?_) (fun ht=>?_)
 ·have hK:=A0 ht
  have hn2:n=ndR:=by rcases hX with h | h | h | h | h<;>first | exact h | (rw [h] at hK;exact absurd hK (by decide))
  subst hn2
  refine k2 (A2 (A5 (B8 V) V (A5 (A8 V V) V (E0 V V (A5 (F7 V V) V (A3 V V (H0 V V V V (A5 (D7 V V) V (H0 V V V V (D3 (H06) V V V ?_))))))))));rintro _ rfl;refine I6 V V ?_;refine A6 V V (A4 ?_);refine k1 (k10 (k12 (k11 ?_)))
  exact B6 (G7 rfl rfl rfl) rfl
 have hK6:=A1 ht
 rcases hX with h | h | h | h | h
 ·exact absurd (by rw [h]) hK2
 ·exact absurd (by rw [h]) hK1
 ·exact absurd (by rw [h]) hK6
 ·exact absurd (by rw [h]) hK3
 ·exact absurd (by rw [h]) hK4
theorem I15:FnOk Tryz.prog 99 [B54 nodes5] (fun rs=>rs=[F2 0]):=by
 have hk:∀(i:Nat) (n:AL.Node),nodes5[i]?=some n→n∈nodes5∧∀k∈n.Kids,0≤k∧k < (i:Int):=by
  intro i n h
  refine ⟨J32 h,?_⟩
  match i,h with
  | 0,h=>cases h;decide
  | 1,h=>cases h;decide
  | 2,h=>cases h;decide
  | 3,h=>cases h;decide
  | 4,h=>cases h;decide
  | i+5,h=>simp at h
 obtain ⟨L,hL⟩:∃L,L=nodes5:=⟨_,rfl⟩
 have hl:L.length=5:=by rw [hL];rfl
 rw [←hL] at hk ⊢
 refine FnOk.intro Tryz.func99 (by decide) V V V V ?_
 refine k2 (A2 (A6 V V (A4 ?_)));refine k1 (k2 (k2 (A2 (A3 V V (E0 V V (A5 (F7 V V) V (A3 V V (B1 V V V V (fun hg=>by rw [hg];exact B7 V V) ?_))))))));refine B1 V V V V (fun hg=>by rw [hg];exact X7 V (.pure _ _ _ _)) ?_;refine B1 V V V V (fun hg=>by rw [hg];exact M5 V V) ?_;refine I6 V V ?_;refine A4 ?_;refine k1 ?_;refine B0 rfl (fun ht=>?_) (fun ht=>?_)
 ·simp only [or_pick] at ht
  have:=A0 ht
  omega
 refine k5 (k1 (k2 (k2 (A2 (A3 V V (E0 V V (A3 V V (A4 ?_))))))));refine k1 (k3 (C5 (X:=Nat) (fun i=>([(13,.s (B54 L).s1),(14,C0 L.length),(15,C0 i)],[])) (fun i=>i≤L.length) (fun i=>L.length - i) 0 (Nat.zero_le _) (I90 ⟨le1 rfl,le1 rfl,le1 rfl,trivial⟩ trivial) ?_))
 intro i hi
 dsimp only at hi ⊢
 refine k2 (A2 (E8 V V V (A4 ?_)));refine k1 (k2 ?_);refine B0 rfl (fun ht=>?_) (fun ht=>?_)
 ·have hlt:i < L.length:=by have:=A0 ht;omega
  obtain ⟨n,hn⟩:∃n,n=L[i]:=⟨_,rfl⟩
  have hv:L[i]?=some n:=by rw [hn];simp [hlt]
  obtain ⟨hm,hkk⟩:=hk i n hv
  rw [hL] at hm
  refine k5 (k1 (k2 (k3 (k2 (A2 (A3 V V (A5 (A9 V (.pure _ _ _ _) V (by omega) hv) V (A5 (D7 V V) V (C9 (J4 4 V) V (A6 V V (G8 (C1 TySz.out V V V V V V) (A4 ?_))))))))))));refine k1 (k2 (A2 (A5 (P3 V V V) V (A3 V V (D3 (fits_ok n i hm hkk) V V V ?_)))));rintro _ rfl;refine A5 (U2 V) V (A4 ?_);refine k1 ?_;refine B0 rfl (fun ht=>?_) (fun ht=>?_)
  ·cases ht
  refine k5 (k4 (k1 (A2 (D2 V V V (A3 V V (A4 ?_))))));refine k1 ?_
  exact ⟨i+1,by omega,by omega,I90 ⟨le1 rfl,le1 rfl,le1 rfl,trivial⟩ trivial⟩
 refine k6 (k2 (A2 (A6 V V (A4 ?_))));refine k1 (k10 ?_)
 exact B6 (rs:=[F2 0]) (G7 rfl rfl rfl) rfl
set_option maxHeartbeats 1000000
theorem sumW_lo (w:List Int) (hw:∀v∈w,0≤v∧v≤4001) (k:Int):0≤atG w k.toNat∧atG w k.toNat≤4001:=by
 unfold atG
 cases h:w[k.toNat]? with
 | none=>simp
 | some v=>exact hw v (J32 h)
theorem I16 (n:AL.Node) (w:List Int) (hn:n∈nodes5) (hk:∀k∈n.Kids,0≤k∧k < w.length) (hw:∀v∈w,0≤v∧v≤4001):FnOk Tryz.prog 100 [D33 n,I5 w] (fun rs=>rs=[F2 (D51 n w)]):=by
 have hlen:n.Kids.length≤3:=by rcases y3 hn with h | h | h | h | h<;>rw [h]<;>decide
 have hX:=y3 hn
 refine FnOk.intro Tryz.func100 (by decide) V V V V ?_
 refine k2 (A2 (A5 (o6 V V V) V (A6 V V (A4 ?_))));refine k1 (k2 (A2 (A6 V V (A4 ?_))));refine k1 (k2 (k2 (A2 (A5 (B8 V) V (A5 (A8 V V) V (E0 V V (A3 V V (A4 ?_))))))));refine k1 (k3 (C5 (X:=Nat × Int) (fun x=>([(1,C6 Int 1 E3 w),(2,.s (.one (.eref Unit 8 (fun _ j=>(cellsOf B11 n 0 8).getD j (.v undef)) () 0))),(5,C0 x.2),(9,C6 Int 1 E3 n.Kids),(10,C0 n.Kids.length),(11,C0 x.1)],[])) (fun x=>x.1≤n.Kids.length∧0≤x.2∧x.2≤4001∧sumW w x.2 (n.Kids.drop x.1)=sumW w 0 n.Kids) (fun x=>n.Kids.length - x.1) (0,0) ⟨Nat.zero_le _,by decide,by decide,rfl⟩ (I90 ⟨le1 rfl,le1 rfl,le1 rfl,le1 rfl,le1 rfl,le1 rfl,trivial⟩ trivial) ?_))
 rintro ⟨j,acc⟩ ⟨hj,h0,h1,hs⟩
 dsimp only at hj h0 h1 hs ⊢
 refine k2 (A2 (E8 V V V (A4 ?_)));refine k1 (k2 ?_);refine B0 rfl (fun ht=>?_) (fun ht=>?_)
 ·have hlt:j < n.Kids.length:=by have:=A0 ht;omega
  obtain ⟨k,hkd⟩:∃k,k=n.Kids[j]:=⟨_,rfl⟩
  have hv:n.Kids[j]?=some k:=by rw [hkd];simp [hlt]
  have hkk:=hk k (J32 hv)
  have hb:=sumW_lo w hw k
  have hvw:w[k.toNat]?=some (atG w k.toNat):=by
   unfold atG
   rw [J15 (by omega)];rfl
  rw [J24 hlt,←hkd,sumW] at hs
  refine k5 (k1 (k2 (k3 (k2 (A2 (A5 (A9 V (.pure _ _ _ _) V (by omega) hv) V (A5 (A8 V V) V (A6 V V (A4 ?_)))))))));refine k1 (A2 (A3 V V (A3 V V (A3 V V (A5 (A9 V (.pure _ _ _ _) V (by omega) hvw) V (A5 (A8 V V) V (D2 V V V (A5 (H43 V V) V (A6 V V (A4 ?_))))))))));refine k4 (k1 (A2 (D2 V V V (A3 V V (A4 ?_)))));refine k1 ?_
  exact ⟨(j+1,B99 (acc+atG w k.toNat) 4001),⟨by dsimp only;omega,by dsimp only [B99];split<;>omega,by dsimp only [B99];split<;>omega,hs⟩,by dsimp only;omega,I90 ⟨le1 rfl,le1 rfl,le1 rfl,le1 rfl,le1 rfl,le1 rfl,trivial⟩ trivial⟩
 have hjl:j=n.Kids.length:=by have:=A1 ht;omega
 have hs:acc=sumW w 0 n.Kids:=by
  rw [hjl,List.drop_length] at hs
  exact hs
 have hW:D51 n w=if n.Kind=4 then acc else if n.Kind=5 then B99 (acc+n.Kids.length - 1) 4001 else if n.Kind=6 then (if n.Max < 0 then B99 (n.Min*acc+acc+1) 4001 else B99 (n.Min*acc+(n.Max - n.Min)*(acc+1)) 4001) else 1:=by
  rw [hs];rfl
 refine k6 (k2 (k2 (A2 (A5 (B8 V) V (A5 (A8 V V) V (A4 ?_))))));refine k1 (k3 (k2 (A2 (A5 (F7 V V) V (A6 V V (A4 ?_))))));refine k1 ?_;refine B0 rfl (fun ht=>?_) (fun ht=>?_)
 ·have hK:n.Kind=4:=A0 ht
  refine k2 (A2 (A3 V V (A6 V V (A4 ?_))));refine k1 (k10 (k12 (k11 ?_)))
  exact B6 (rs:=[F2 acc]) (G7 rfl rfl rfl) (by rw [hW,if_pos hK])
 have hK4:¬n.Kind=4:=A1 ht
 refine k2 (A2 (A5 (F7 V V) V (A6 V V (A4 ?_))));refine k1 ?_;refine B0 rfl (fun ht=>?_) (fun ht=>?_)
 ·exact absurd (A0 ht) (by rcases hX with h | h | h | h | h<;>rw [h]<;>decide)
 have hK5:¬n.Kind=5:=A1 ht
 refine k2 (A2 (A5 (F7 V V) V (A6 V V (A4 ?_))));refine k1 ?_;refine B0 rfl (fun ht=>?_) (fun ht=>?_)
 ·have hK:n.Kind=6:=A0 ht
  have hn2:n=ndR:=by rcases hX with h | h | h | h | h<;>first | exact h | (rw [h] at hK;exact absurd hK (by decide))
  subst hn2
  refine k2 (k2 (A2 (A5 (B8 V) V (A5 (A8 V V) V (E8 V V V (A4 ?_))))));refine k1 ?_;refine B0 rfl (fun ht=>?_) (fun ht=>?_)
  ·refine k2 (A2 (A5 (B8 V) V (A5 (A8 V V) V (A3 V V (A5 (A58 V V (by (dsimp only;omega))) V ?_)))));refine A3 V V (A5 (Z9 V V (by (dsimp only;omega))) V ?_);refine A5 (Z9 V V (by (dsimp only;omega))) V ?_;refine A5 (H43 V V) V (A6 V V (A4 ?_));refine k1 (k10 (k11 (k12 (k11 ?_))))
   exact B6 (G7 rfl rfl rfl) (by rw [hW];rfl)
  ·cases ht
 have hK6:¬n.Kind=6:=A1 ht
 refine k5 (k2 (A2 (A6 V V (A4 ?_))));refine k1 (k10 ?_)
 exact B6 (rs:=[F2 1]) (G7 rfl rfl rfl) (by rw [hW,if_neg hK4,if_neg hK5,if_neg hK6])
def wtI (i:Nat):List Int:=F05 (nodes5.take i) 0 (List.replicate 5 0)
theorem five {p:Nat→Prop} (h0:p 0) (h1:p 1) (h2:p 2) (h3:p 3) (h4:p 4):∀i,i < 5→p i
 | 0,_=>h0
 | 1,_=>h1
 | 2,_=>h2
 | 3,_=>h3
 | 4,_=>h4
theorem wtI_len:∀i,i < 5→(wtI i).length=5∧∀v∈wtI i,0≤v∧v≤4001:=five (by decide) (by decide) (by decide) (by decide) (by decide)
theorem I72:∀i,i < 5→(wtI i).set i (D51 (nodes5.getD i B98) (wtI i))=wtI (i+1):=five rfl rfl rfl rfl rfl
theorem H07:∀i,i < 5→∀k∈(nodes5.getD i B98).Kids,0≤k∧k < 5:=five (by decide) (by decide) (by decide) (by decide) (by decide)
abbrev wt5:List Int:=[1,1,3,1,5]
theorem E00:FnOk Tryz.prog 72 [B54 nodes5] (fun rs=>rs=[I5 wt5]):=by
 obtain ⟨L,hL⟩:∃L,L=nodes5:=⟨_,rfl⟩
 have hl:L.length=5:=by rw [hL];rfl
 rw [←hL]
 refine FnOk.intro Tryz.func72 (by decide) V V V V ?_
 refine k2 (A2 (A6 V V (A4 ?_)));refine k1 (k2 (A2 (A3 V V (E0 V V (C9 (c8 764 Int E3 0 V V (by omega) (by omega) (fun _=>by first | exact ⟨⟨rfl,rfl⟩,trivial⟩ | exact ⟨G9 _ _ _,trivial⟩ | exact ⟨G9 _ _ _,⟨rfl,rfl⟩,G9 _ _ _,trivial⟩) (by first | rfl | (simp [K2,J2,Ob.free,SV.free,S1.free,TC.free]<;>rfl))) V ?_)))));refine A6 V V (A4 ?_);refine k1 (k2 (k2 (A2 (A3 V V (E0 V V (A3 V V (A4 ?_)))))));refine k1 (k3 ?_);refine C5 (X:=Nat) (fun i=>([(3,.s (.one (.mut 764))),(9,.s (B54 L).s1),(10,C0 L.length),(11,C0 i)],[(764,.arr Int 1 E3 (wtI i))])) (fun i=>i≤L.length) (fun i=>L.length - i) 0 (Nat.zero_le _) ?_ ?_
 ·rw [hl]
  exact I90 ⟨le1 rfl,le1 rfl,le1 rfl,le1 rfl,trivial⟩ ⟨rfl,trivial⟩
 intro i hi
 dsimp only at hi ⊢
 refine k2 (A2 (E8 V V V (A4 ?_)));refine k1 (k2 ?_);refine B0 rfl (fun ht=>?_) (fun ht=>?_)
 ·have hlt:i < L.length:=by have:=A0 ht;omega
  have hv:L[i]?=some (nodes5.getD i B98):=by
   rw [hL,J21,J15 (by rw [←hL];exact hlt)];rfl
  obtain ⟨h5,hb⟩:=wtI_len i (by omega)
  have hm:nodes5.getD i B98∈nodes5:=by rw [←hL] at hv ⊢;exact J32 hv
  have hvw:(wtI i)[i]?=some ((wtI i)[i]'(by omega)):=J15 (by omega)
  refine k5 (k1 (k2 (k3 (k2 (A2 (A3 V V (A5 (A9 V (.pure _ _ _ _) V (by omega) hv) V (A5 (D7 V V) V (C9 (J4 5 V) V (A6 V V (G8 (C1 TySz.out V V V V V V) (A4 ?_))))))))))));refine k1 (A2 (A3 V V (A3 V V (A5 (P3 V V V) V (A3 V V (I50 (Sees.freeze (k:=764) V) (I16 _ (wtI i) hm (by rw [h5];exact H07 i (by omega)) hb) V V V ?_))))));rintro _ rfl;refine ⟨fun _ _ _ h=>h,?_⟩;refine A5 (F1 V V V (by omega) (by omega)) V (G8 (I1 TySz.out V V (by simp;omega) V V) (A4 ?_))
  rw [J17,I72 i (by omega)]
  refine k4 (k1 (A2 (D2 V V V (A3 V V (A4 ?_)))));refine k1 ?_
  exact ⟨i+1,by omega,by omega,I90 ⟨le1 rfl,le1 rfl,le1 rfl,le1 rfl,trivial⟩ ⟨rfl,trivial⟩⟩
 have hi5:i=5:=by have:=A1 ht;omega
 subst hi5
 refine D8 (Sees.freeze (k:=764) V) ?_
 refine k6 (k2 (A2 (A3 V V (A6 V V (A4 ?_)))));refine k1 (k10 ?_)
 exact B6 (rs:=[I5 wt5]) (G7 rfl rfl rfl) rfl
theorem H08:FnOk Tryz.prog 71 [B54 nodes5] (fun rs=>rs=[F2 5,F2 0]):=by
 refine FnOk.intro Tryz.func71 (by decide) V V V V ?_
 refine k2 (A2 (A6 V V (A6 V V (A4 ?_))));refine k1 (k2 (k2 (A2 (A3 V V (D3 (I15) V V V ?_)))));rintro _ rfl;refine A6 V V (A4 ?_);refine k1 (k2 (A2 (A3 V V (A5 (Q8 V V) V (A4 ?_)))));refine k1 ?_;refine B0 rfl (fun ht=>?_) (fun ht=>?_)
 ·cases ht
 refine k5 (k1 (k2 ?_))
 have hv:wt5[((nodes5.length:Int) - 1).toNat]?=some 5:=rfl
 have hn5:nodes5.length=5:=rfl
 have hw5:wt5.length=5:=rfl
 refine A2 (A3 V V (D3 (E00) V V V ?_));rintro _ rfl;refine A3 V V (E0 V V (A5 (K8 V V (by omega)) V (A5 (A9 V (.pure _ _ _ _) V (by omega) hv) V (A5 (A8 V V) V (A6 V V (A6 V V (A4 ?_)))))));refine k1 (k10 ?_)
 exact B6 (rs:=[F2 5,F2 0]) (X8 rfl rfl rfl rfl rfl) rfl
set_option maxHeartbeats 1000000
abbrev A45:Ob:=.box [.p (.list AL.Node 8 B11 nodes5),.p (.list Int 1 E3 wt5),.mut 821]
abbrev b9 (l:List AL.State):Ob:=.grow 132 AL.State 7 Z1 l
abbrev A69:S1:=.one (.ref 820 0)
theorem B36 {gf:Fr} {ob:Obs} (l:List AL.State) (q:AL.State) (hl:l.length≤1000) (h0:B9 ob 820=some A45) (h1:B9 ob 821=some (b9 l)) :
  AL.Met Tryz.prog 73 [A69,(H37 q).s1] gf ob [821] (fun rs ob'=>rs=[N0 l.length]∧ob'=(820,A45)::(821,b9 (l++[q]))::Obs.forget 821 ob):=by
 refine AL.Met.introH Tryz.func73 (by decide) rfl rfl rfl (fun hH=>?_)
 refine D8 (I92 821 (l:=[(0,.s A69),(1,.s (H37 q).s1)]) (L:=[(820,_),(821,_)]) ⟨le1 rfl,le1 rfl,trivial⟩ hH (by repeat (first | exact B2 | refine B3 rfl ?_)) ⟨h0,h1,trivial⟩) ?_
 refine k2 (A2 (A5 (o6 V V V) V (A6 V V (A4 ?_))));refine k1 (k2 ?_);refine D8 (I91 (gf':=Fr.forget 821 gf) (l:=[(0,.s A69),(3,.s (.one (.eref Unit 7 (fun _ j=>(cellsOf Z1 q 0 7).getD j (.v undef)) () 0)))]) (ob':=[(820,A45),(821,b9 l)]++Obs.forget 821 ob) ⟨le1 rfl,le1 rfl,trivial⟩ (A21 hH) (by repeat (first | exact B2 | refine B3 rfl ?_)) (fun _ _ h=>h)) ?_
 refine O0 [10,7] [[],[7],[10,7]] [(7,([821],[9])),(10,([],[]))] [(0,[]),(1,[]),(2,[]),(3,[]),(4,[]),(5,[]),(6,[]),(7,[]),(8,[7]),(9,[7]),(10,[7])] [(0,[7])] (by kernel_rfl) (by kernel_rfl) (E1 V V (by kernel_rfl) V V (B7 V V) (E1 V V (by kernel_rfl) V V (B7 V V) (E1 V V (by kernel_rfl) V V (B4 V) (E1 V V (by kernel_rfl) V V (A7 V) (E1 V V (by kernel_rfl) V V (C4 V V V) (E1 V V (by kernel_rfl) V V (D7 V V) (E1 V V (by kernel_rfl) V V (C3 (c:=Z1) (ys:=[q]) (D4 V V V V F9) V V V) (W6 V V (by kernel_rfl) V V (C77 (fun frc hU=>R8 (R4 hU V) V (R4 hU V) (.pure _ _ _ _) (by (simp only [J19,J22];omega)) V)) V (E1 V V (by kernel_rfl) V V (B4 V) (E1 V V (by kernel_rfl) V V (A7 V) (W6 V V (by kernel_rfl) V V (A23 (fun frc hU=>C1 TySz.out (R4 hU V) V (R4 hU V) V V V)) V ?_)))))))))));refine C78 (ks:=[821]) rfl (by kernel_rfl) rfl ?_ ?_
 ·refine M6 V V (by kernel_rfl) V V (B7 V V) ?_;exact B24
 refine k1 (k2 (A2 (A3 V V (A5 (B4 V) V (A5 (A7 V) V (G4 V V V V (A5 (V5 V V) V (A5 (K8 V V (by (simp only [J20,List.length_singleton];omega))) V (A6 V V (A4 ?_))))))))));refine k1 (k10 ?_);refine G5 (K4 rfl rfl) (by repeat (first | exact B2 | refine tail_drop rfl ?_ | refine B3 rfl ?_ | refine J7 _ ?_ | refine D1 _ ?_)) (E2 (L:=[(820,_),(821,_)]) ⟨rfl,rfl,trivial⟩ (by repeat (first | exact D5 | refine D6 rfl ?_ | refine P7 _ ?_))) ⟨?_,rfl⟩
 rw [J20,List.length_singleton]
 congr 5
 omega
theorem F3 {K:List Nat} {T rest:Obs} {k:Nat} {o:Ob} (hn:B9 rest k=none) (h:∀j x,M4 K j=false→B9 rest j=some x→B9 T j=some x):∀j x,M4 K j=false→B9 rest j=some x→B9 ((k,o)::T) j=some x:=by
 intro j x hj hx
 have:k≠j:=fun e=>by rw [e,hx] at hn;cases hn
 rw [C2 this];exact h j x hj hx
def G3 (ks:List Nat) (ob:Obs):Obs:=ks.foldl (fun f k=>Obs.forget k f) ob
theorem M7 {k:Nat}:∀{ks:List Nat} {ob:Obs},B9 ob k=none→B9 (G3 ks ob) k=none
 | [],_,h=>h
 | q::ks,ob,h=>M7 (ks:=ks) (ob:=Obs.forget q ob) (by rw [J5,h];rfl)
theorem C40 (k:Nat):∀(ks:List Nat) (ob:Obs),G3 ks (Obs.forget k ob)=Obs.forget k (G3 ks ob)
 | [],_=>rfl
 | q::ks,ob=>by
  show G3 ks (Obs.forget q (Obs.forget k ob))=Obs.forget k (G3 ks (Obs.forget q ob))
  rw [B08 q k,C40 k ks]
theorem A46 {k:Nat}:∀{ks:List Nat} {ob:Obs},M4 ks k=true→Obs.forget k (G3 ks ob)=G3 ks ob
 | [],ob,h=>by cases h
 | q::ks,ob,h=>by
  show Obs.forget k (G3 ks (Obs.forget q ob))=G3 ks (Obs.forget q ob)
  by_cases hq:k=q
  ·subst hq;rw [C40,Obs.forget_idem]
  ·have h2:M4 ks k=true:=by
    rw [hasN_iff] at h ⊢
    rcases List.mem_cons.1 h with h | h
    ·exact absurd h hq
    ·exact h
   exact A46 h2
theorem P9 {K ks:List Nat} {T ob:Obs} (k:Nat) (hk:M4 ks k=true) (h:∀j x,M4 K j=false→B9 (G3 ks ob) j=some x→B9 T j=some x) :
  ∀j x,M4 K j=false→B9 (G3 ks ob) j=some x→B9 (Obs.forget k T) j=some x:=by
 intro j x hj hx
 rw [←A46 hk,J5] at hx
 rw [J5]
 cases hr:B9 (G3 ks ob) j with
 | none=>rw [hr] at hx;cases hx
 | some y=>rw [hr] at hx;rw [h j y hj hr];exact hx
def E01 (n:AL.Node) (next:Int):AL.State:=if n.Kind=1 then ⟨0,n.Set,next,0⟩ else ⟨n.Kind,⟨0,0,0,0⟩,next,0⟩
theorem C41 {gf:Fr} {ob:Obs} (i:Nat) (n:AL.Node) (next:Int) (l:List AL.State) (hv:nodes5[i]?=some n) (hK:n.Kind=1∨n.Kind=2∨n.Kind=3) (hl:l.length≤1000) (h0:B9 ob 820=some A45) (h1:B9 ob 821=some (b9 l)) (h2:B9 ob 824=none) :
  AL.Met Tryz.prog 74 [A69,N0 i,N0 next] gf ob [821,824,825] (fun rs ob'=>rs=[N0 l.length]∧ob'=(820,A45)::(821,b9 (l++[E01 n next]))::G3 [821,824,825] ob):=by
 obtain ⟨wv,hw,hw0⟩:∃wv,wt5[i]?=some wv∧wv≠0:=by
  match i,hv with
  | 0,_=>exact ⟨_,rfl,by decide⟩
  | 1,_=>exact ⟨_,rfl,by decide⟩
  | 2,_=>exact ⟨_,rfl,by decide⟩
  | 3,_=>exact ⟨_,rfl,by decide⟩
  | 4,_=>exact ⟨_,rfl,by decide⟩
  | i+5,h=>simp at h
 refine AL.Met.introH Tryz.func74 (by decide) rfl rfl rfl (fun hH=>?_)
 refine D8 (I92 821 (l:=[(0,.s A69),(1,.s (N0 i)),(2,.s (N0 next))]) (L:=[(820,_),(821,_)]) ⟨le1 rfl,le1 rfl,le1 rfl,trivial⟩ hH (by repeat (first | exact B2 | refine B3 rfl ?_)) ⟨h0,h1,trivial⟩) ?_
 refine D8 (Sees.forget 824) ?_
 refine D8 (Sees.forget 825) ?_
 refine D8 (I91 (gf':=C7 [821,824,825] gf) (l:=[(0,.s A69),(1,.s (N0 i)),(2,.s (N0 next))]) (ob':=[(820,A45),(821,b9 l)]++G3 [821,824,825] ob) ⟨le1 rfl,le1 rfl,le1 rfl,trivial⟩ (E9 hH) (by repeat (first | exact B2 | refine tail_drop rfl ?_ | refine B3 rfl ?_ | refine H1 _ rfl ?_)) (E2 (L:=[(820,_),(821,_)]) ⟨rfl,rfl,trivial⟩ (by repeat (first | exact D5 | refine D6 rfl ?_)))) ?_
 have hf3:B9 (G3 [821,824,825] ob) 824=none:=M7 h2
 refine k2 (A2 (A6 V V (A4 ?_)));refine k1 (k2 (k2 (A2 (A3 V V (A5 (B4 V) V (A5 (A7 V) V (G4 V V V V (A3 V V (A5 (A9 V (.pure _ _ _ _) V (by omega) hw) V (A5 (A8 V V) V (A5 (F7 V V) V (A4 ?_))))))))))));refine k1 ?_;refine B0 rfl (fun ht=>?_) (fun ht=>?_)
 ·exact absurd (A0 ht) hw0
 refine k5 (k1 (k2 (A2 (A3 V V (A5 (B4 V) V (A5 (A7 V) V (G4 V V V V (A3 V V (A5 (A9 V (.pure _ _ _ _) V (by omega) hv) V (A5 (D7 V V) V (C9 (A76 824 hf3 (by decide)) V (G8 (C1 TySz.out V V V V V V) (A4 ?_)))))))))))));refine k1 (k2 (k2 (A2 (A5 (A7 V) V (G4 V V V V (A4 ?_))))));refine k1 (k3 (k2 (A2 (A5 (F7 V V) V (A6 V V (A4 ?_))))));refine k1 ?_;refine B0 rfl (fun ht=>?_) (fun ht=>?_)
 ·have hK1:n.Kind=1:=A0 ht
  have hq:E01 n next=⟨0,n.Set,next,0⟩:=by unfold E01;rw [if_pos hK1]
  rw [hq]
  refine k2 (A2 (A3 V V (A5 (A7 V) V (A5 (P3 V V V) V (A3 V V (A5 (K1 V) V (L1 (B36 l ⟨0,n.Set,next,0⟩ hl V V) V V V ?_)))))));rintro _ _ ⟨rfl,rfl⟩;refine A6 V V (A4 ?_);refine k1 (k10 (k12 (k11 ?_)))
  exact G5 (K4 rfl rfl) (by repeat (first | exact B2 | refine tail_drop rfl ?_ | refine B3 rfl ?_ | refine H1 _ rfl ?_)) (E2 (L:=[(820,_),(821,_)]) ⟨rfl,rfl,trivial⟩ (by repeat (first | exact D5 | refine D6 rfl ?_ | refine F3 hf3 ?_ | refine P9 _ rfl ?_))) ⟨rfl,rfl⟩
 have hK1:¬n.Kind=1:=A1 ht
 refine k2 (A2 (A5 (F7 V V) V (A6 V V (A4 ?_))));refine k1 ?_;refine B0 rfl (fun ht=>?_) (fun ht=>?_)
 ·have hK2:n.Kind=2:=A0 ht
  have hq:E01 n next=⟨2,⟨0,0,0,0⟩,next,0⟩:=by unfold E01;rw [if_neg hK1,hK2]
  rw [hq]
  refine k2 (A2 (A3 V V (A3 V V (A5 (K1 V) V (L1 (B36 l ⟨2,⟨0,0,0,0⟩,next,0⟩ hl V V) V V V ?_)))));rintro _ _ ⟨rfl,rfl⟩;refine A6 V V (A4 ?_);refine k1 (k10 (k12 (k11 ?_)))
  exact G5 (K4 rfl rfl) (by repeat (first | exact B2 | refine tail_drop rfl ?_ | refine B3 rfl ?_ | refine H1 _ rfl ?_)) (E2 (L:=[(820,_),(821,_)]) ⟨rfl,rfl,trivial⟩ (by repeat (first | exact D5 | refine D6 rfl ?_ | refine F3 hf3 ?_ | refine P9 _ rfl ?_))) ⟨rfl,rfl⟩
 have hK2:¬n.Kind=2:=A1 ht
 refine k2 (A2 (A5 (F7 V V) V (A6 V V (A4 ?_))));refine k1 ?_;refine B0 rfl (fun ht=>?_) (fun ht=>?_)
 ·have hK3:n.Kind=3:=A0 ht
  have hq:E01 n next=⟨3,⟨0,0,0,0⟩,next,0⟩:=by unfold E01;rw [if_neg hK1,hK3]
  rw [hq]
  refine k2 (A2 (A3 V V (A3 V V (A5 (K1 V) V (L1 (B36 l ⟨3,⟨0,0,0,0⟩,next,0⟩ hl V V) V V V ?_)))));rintro _ _ ⟨rfl,rfl⟩;refine A6 V V (A4 ?_);refine k1 (k10 (k12 (k11 ?_)))
  exact G5 (K4 rfl rfl) (by repeat (first | exact B2 | refine tail_drop rfl ?_ | refine B3 rfl ?_ | refine H1 _ rfl ?_)) (E2 (L:=[(820,_),(821,_)]) ⟨rfl,rfl,trivial⟩ (by repeat (first | exact D5 | refine D6 rfl ?_ | refine F3 hf3 ?_ | refine P9 _ rfl ?_))) ⟨rfl,rfl⟩
 ·have hK3:¬n.Kind=3:=A1 ht
  rcases hK with h | h | h
  ·exact absurd h hK1
  ·exact absurd h hK2
  ·exact absurd h hK3
abbrev y4:AL.State:=⟨4,⟨0,0,0,0⟩,0,0⟩
abbrev A88:AL.State:=⟨3,⟨0,0,0,0⟩,0,0⟩
abbrev A47:AL.State:=⟨0,⟨0,8589934592,0,0⟩,2,0⟩
abbrev qSp0:AL.State:=⟨1,⟨0,0,0,0⟩,0,1⟩
abbrev qSp:AL.State:=⟨1,⟨0,0,0,0⟩,3,1⟩
abbrev qSta:AL.State:=⟨2,⟨0,0,0,0⟩,4,0⟩
def repS:Nat→List AL.State
 | 0=>[y4,A88,qSp,A47]
 | _=>[y4,A88,qSp,A47,A47]
def repN:Nat→Int
 | 0=>2
 | _=>4
theorem H09 {gf:Fr} {ob:Obs} (h0:B9 ob 820=some A45) (h1:B9 ob 821=some (b9 [y4,A88])) (h2:B9 ob 824=none) :
  AL.Met Tryz.prog 102 [A69,(D33 ndR).s1,N0 1] gf ob [821,824,825] (fun rs ob'=>rs=[N0 4]∧ob'=(820,A45)::(821,b9 [y4,A88,qSp,A47,A47])::G3 [821,824,825] ob):=by
 refine AL.Met.introH Tryz.func102 (by decide) rfl rfl rfl (fun hH=>?_)
 refine D8 (I92 821 (l:=[(0,.s A69),(1,.s (D33 ndR).s1),(2,.s (N0 1))]) (L:=[(820,_),(821,_)]) ⟨le1 rfl,le1 rfl,le1 rfl,trivial⟩ hH (by repeat (first | exact B2 | refine B3 rfl ?_)) ⟨h0,h1,trivial⟩) ?_
 refine D8 (Sees.forget 824) ?_
 refine D8 (Sees.forget 825) ?_
 refine D8 (I91 (gf':=C7 [821,824,825] gf) (l:=[(0,.s A69),(1,.s (D33 ndR).s1),(2,.s (N0 1))]) (ob':=[(820,A45),(821,b9 [y4,A88])]++G3 [821,824,825] ob) ⟨le1 rfl,le1 rfl,le1 rfl,trivial⟩ (E9 hH) (by repeat (first | exact B2 | refine tail_drop rfl ?_ | refine B3 rfl ?_ | refine H1 _ rfl ?_)) (E2 (L:=[(820,_),(821,_)]) ⟨rfl,rfl,trivial⟩ (by repeat (first | exact D5 | refine D6 rfl ?_)))) ?_
 have hf3:B9 (G3 [821,824,825] ob) 824=none:=M7 h2
 have hv0:ndR.Kids[(0:Int).toNat]?=some 1:=rfl
 refine k2 (A2 (A5 (o6 V V V) V (A6 V V (A4 ?_))));refine k1 (k2 (A2 (A5 (B8 V) V (A5 (A8 V V) V (A5 (A9 V (.pure _ _ _ _) V (by omega) hv0) V (A5 (A8 V V) V (A6 V V (A4 ?_))))))));refine k1 (k2 (k2 (A2 (A5 (B8 V) V (A5 (A8 V V) V (E8 V V V (A4 ?_)))))));refine k1 ?_;refine B0 rfl (fun ht=>?_) (fun ht=>?_)
 rotate_left
 ·cases ht
 refine k2 (A2 (A3 V V (A3 V V (A5 (K1 V) V (L1 (B36 [y4,A88] qSp0 (by decide) V V) V V V ?_)))));rintro _ _ ⟨rfl,rfl⟩;refine A6 V V (A4 ?_);refine k1 (k2 ?_)
 have hf4:B9 (Obs.forget 821 (G3 [821,824,825] ob)) 824=none:=by rw [J5,hf3];rfl
 refine A2 (A3 V V (A3 V V (A3 V V (L1 (C41 1 ndA 2 [y4,A88,qSp0] V (.inl V) (by decide) V V hf4) V V V ?_))));rintro _ _ ⟨rfl,rfl⟩;refine A6 V V (A4 ?_);refine k1 (k2 ?_)
 have hv2:([y4,A88,qSp0,A47]:List AL.State)[(2:Int).toNat]?=some qSp0:=rfl
 refine D8 (I91 (gf':=C7 [821,824,825] gf) (l:=[(0,.s A69),(4,.s (.one (.eref Unit 8 (fun _ j=>(cellsOf B11 ndR 0 8).getD j (.v undef)) () 0))),(7,C0 1),(8,C0 2),(9,C0 3)]) (ob':=[(820,A45),(821,b9 [y4,A88,qSp0,A47])]++G3 [821,824,825] ob) ⟨le1 rfl,le1 rfl,le1 rfl,le1 rfl,le1 rfl,trivial⟩ (E9 hH) (by repeat (first | exact B2 | refine tail_drop rfl ?_ | refine B3 rfl ?_ | refine H1 _ rfl ?_)) (E2 (L:=[(820,_),(821,_)]) ⟨rfl,rfl,trivial⟩ (by repeat (first | exact D5 | refine D6 rfl ?_ | refine F3 hf3 ?_ | refine P9 _ rfl ?_)))) ?_
 refine A2 (A3 V V (A5 (B4 V) V (A5 (A7 V) V (G4 V V V V (A3 V V (A3 V V (A5 (H7 V V V (by omega) (by (first | omega | decide))) V (A5 (F09 V) V (G8 (A64 (qSp) TySz.out V V hv2 V V V V (fun _ _ _ h=>A07 h) (by intro j h1 h2;rcases j with _ | _ | _ | _ | _ | _ | _ | j<;>first | rfl | omega)) ?_)))))))));refine A4 ?_;refine k1 (A2 (A3 V V (A6 V V (A4 ?_))));refine k1 (k2 (A2 (A3 V V (A6 V V (A4 ?_)))));refine k1 (k2 (k2 (A2 (A5 (B8 V) V (A5 (A8 V V) V (A5 (B8 V) V (A5 (A8 V V) V (A5 (K8 V V (by (dsimp only;omega))) V ?_))))))));refine A3 V V (A4 ?_);refine k1 (k3 ?_);refine C5 (X:=Nat) (fun _=>([(0,.s A69),(2,C0 2),(4,.s (.one (.eref Unit 8 (fun _ j=>(cellsOf B11 ndR 0 8).getD j (.v undef)) () 0))),(7,C0 1),(40,C0 (-2)),(41,C0 0)]++C7 [821,824,825] gf,[(820,A45),(821,b9 [y4,A88,qSp,A47])]++G3 [821,824,825] ob)) (fun _=>True) (fun i=>i) 0 trivial ?_ ?_
 ·exact I91 ⟨le1 rfl,le1 rfl,le1 rfl,le1 rfl,le1 rfl,le1 rfl,trivial⟩ (E9 hH) (by repeat (first | exact B2 | refine tail_drop rfl ?_ | refine B3 rfl ?_ | refine H1 _ rfl ?_)) (E2 (L:=[(820,_),(821,_)]) ⟨rfl,rfl,trivial⟩ (by repeat (first | exact D5 | refine D6 rfl ?_ | refine F3 hf3 ?_ | refine P9 _ rfl ?_)))
 intro i _
 dsimp only
 refine k2 (A2 (E8 V V V (A4 ?_)));refine k1 (k2 ?_);refine B0 rfl (fun ht=>?_) (fun ht=>?_)
 ·cases ht
 refine k6 (k2 (k2 (A2 (A5 (B8 V) V (A5 (A8 V V) V (A3 V V (A4 ?_)))))));refine k1 (k3 ?_);refine C5 (X:=Nat) (fun i=>([(0,.s A69),(2,C0 (repN i)),(7,C0 1),(53,C0 1),(54,C0 i)]++C7 [821,824,825] gf,[(820,A45),(821,b9 (repS i))]++G3 [821,824,825] ob)) (fun i=>i≤1) (fun i=>1 - i) 0 (by decide) ?_ ?_
 ·exact I91 ⟨le1 rfl,le1 rfl,le1 rfl,le1 rfl,le1 rfl,trivial⟩ (E9 hH) (by repeat (first | exact B2 | refine tail_drop rfl ?_ | refine B3 rfl ?_ | refine H1 _ rfl ?_)) (E2 (L:=[(820,_),(821,_)]) ⟨rfl,rfl,trivial⟩ (by repeat (first | exact D5 | refine D6 rfl ?_ | refine F3 hf3 ?_ | refine P9 _ rfl ?_)))
 intro i hi
 dsimp only at hi ⊢
 refine k2 (A2 (E8 V V V (A4 ?_)));refine k1 (k2 ?_);refine B0 rfl (fun ht=>?_) (fun ht=>?_)
 ·have hi0:i=0:=by have:=A0 ht;omega
  subst hi0
  refine k5 (k1 (k2 (k3 (A2 (A3 V V (A3 V V (A3 V V (L1 (C41 1 ndA 2 [y4,A88,qSp,A47] V (.inl V) (by decide) V V hf3) V V V ?_))))))));rintro _ _ ⟨rfl,rfl⟩;refine A6 V V (A4 ?_);refine k4 (k1 (A2 (D2 V V V (A3 V V (A4 ?_)))));refine k1 ?_
  exact ⟨1,by decide,by decide,I91 ⟨le1 rfl,le1 rfl,le1 rfl,le1 rfl,le1 rfl,trivial⟩ (E9 hH) (by repeat (first | exact B2 | refine tail_drop rfl ?_ | refine B3 rfl ?_ | refine H1 _ rfl ?_)) (E2 (L:=[(820,_),(821,_)]) ⟨rfl,rfl,trivial⟩ (by repeat (first | exact D5 | refine D6 rfl ?_ | refine F3 hf3 ?_ | refine P9 _ rfl ?_)))⟩
 have hi1:i=1:=by have:=A1 ht;omega
 subst hi1
 refine k6 (k2 (A2 (A3 V V (A6 V V (A4 ?_)))));refine k1 (k10 ?_)
 exact G5 (K4 rfl rfl) (by repeat (first | exact B2 | refine tail_drop rfl ?_ | refine B3 rfl ?_ | refine H1 _ rfl ?_)) (E2 (L:=[(820,_),(821,_)]) ⟨rfl,rfl,trivial⟩ (by repeat (first | exact D5 | refine D6 rfl ?_ | refine F3 hf3 ?_ | refine P9 _ rfl ?_))) ⟨rfl,rfl⟩
theorem H10 {gf:Fr} {ob:Obs} (h0:B9 ob 820=some A45) (h1:B9 ob 821=some (b9 [y4,A88])) (h2:B9 ob 824=none) (h3:B9 ob 825=none) :
  AL.Met Tryz.prog 74 [A69,N0 2,N0 1] gf ob [821,824,825] (fun rs ob'=>rs=[N0 4]∧ob'=(820,A45)::(821,b9 [y4,A88,qSp,A47,A47])::G3 [821,824,825] ob):=by
 refine AL.Met.introH Tryz.func74 (by decide) rfl rfl rfl (fun hH=>?_)
 refine D8 (I92 821 (l:=[(0,.s A69),(1,.s (N0 2)),(2,.s (N0 1))]) (L:=[(820,_),(821,_)]) ⟨le1 rfl,le1 rfl,le1 rfl,trivial⟩ hH (by repeat (first | exact B2 | refine B3 rfl ?_)) ⟨h0,h1,trivial⟩) ?_
 refine D8 (Sees.forget 824) ?_
 refine D8 (Sees.forget 825) ?_
 refine D8 (I91 (gf':=C7 [821,824,825] gf) (l:=[(0,.s A69),(1,.s (N0 2)),(2,.s (N0 1))]) (ob':=[(820,A45),(821,b9 [y4,A88])]++G3 [821,824,825] ob) ⟨le1 rfl,le1 rfl,le1 rfl,trivial⟩ (E9 hH) (by repeat (first | exact B2 | refine tail_drop rfl ?_ | refine B3 rfl ?_ | refine H1 _ rfl ?_)) (E2 (L:=[(820,_),(821,_)]) ⟨rfl,rfl,trivial⟩ (by repeat (first | exact D5 | refine D6 rfl ?_)))) ?_
 have hf3:B9 (G3 [821,824,825] ob) 824=none:=M7 h2
 have hf5:B9 (G3 [821,824,825] ob) 825=none:=M7 h3
 have hf4:B9 (Obs.forget 825 (G3 [821,824,825] ob)) 824=none:=by rw [J5,hf3];rfl
 have hw:wt5[(2:Int).toNat]?=some 3:=rfl
 have hv:nodes5[(2:Int).toNat]?=some ndR:=rfl
 refine k2 (A2 (A6 V V (A4 ?_)));refine k1 (k2 (k2 (A2 (A3 V V (A5 (B4 V) V (A5 (A7 V) V (G4 V V V V (A3 V V (A5 (A9 V (.pure _ _ _ _) V (by omega) hw) V (A5 (A8 V V) V (A5 (F7 V V) V (A4 ?_))))))))))));refine k1 ?_;refine B0 rfl (fun ht=>?_) (fun ht=>?_)
 ·cases ht
 refine k5 (k1 (k2 (A2 (A3 V V (A5 (B4 V) V (A5 (A7 V) V (G4 V V V V (A3 V V (A5 (A9 V (.pure _ _ _ _) V (by omega) hv) V (A5 (D7 V V) V (C9 (A76 825 hf5 (by decide)) V (G8 (C1 TySz.out V V V V V V) (A4 ?_)))))))))))));refine k1 (k2 (k2 (A2 (A5 (A7 V) V (G4 V V V V (A4 ?_))))));refine k1 (k3 (k2 (A2 (A5 (F7 V V) V (A6 V V (A4 ?_))))));refine k1 ?_;refine B0 rfl (fun ht=>?_) (fun ht=>?_)
 ·cases ht
 refine k2 (A2 (A5 (F7 V V) V (A6 V V (A4 ?_))));refine k1 ?_;refine B0 rfl (fun ht=>?_) (fun ht=>?_)
 ·cases ht
 refine k2 (A2 (A5 (F7 V V) V (A6 V V (A4 ?_))));refine k1 ?_;refine B0 rfl (fun ht=>?_) (fun ht=>?_)
 ·cases ht
 refine k2 (A2 (A5 (F7 V V) V (A6 V V (A4 ?_))));refine k1 ?_;refine B0 rfl (fun ht=>?_) (fun ht=>?_)
 ·cases ht
 refine k2 (A2 (A5 (F7 V V) V (A6 V V (A4 ?_))));refine k1 ?_;refine B0 rfl (fun ht=>?_) (fun ht=>?_)
 ·cases ht
 refine k2 (A2 (A5 (F7 V V) V (A6 V V (A4 ?_))));refine k1 ?_;refine B0 rfl (fun ht=>?_) (fun ht=>?_)
 rotate_left
 ·cases ht
 refine k2 (A2 (A3 V V (A5 (P3 V V V) V (A3 V V (L1 (H09 V V hf4) V V V ?_)))));rintro _ _ ⟨rfl,rfl⟩;refine A6 V V (A4 ?_);refine k1 (k10 (k12 (k11 ?_)))
 exact G5 (K4 rfl rfl) (by repeat (first | exact B2 | refine tail_drop rfl ?_ | refine B3 rfl ?_ | refine H1 _ rfl ?_)) (E2 (L:=[(820,_),(821,_)]) ⟨rfl,rfl,trivial⟩ (by repeat (first | exact D5 | refine D6 rfl ?_ | refine F3 hf5 ?_ | refine P9 _ rfl ?_))) ⟨rfl,rfl⟩
def stS:Nat→List AL.State
 | 0=>[y4]
 | 1=>[y4,A88]
 | 2=>[y4,A88,qSp,A47,A47]
 | _=>[y4,A88,qSp,A47,A47,qSta]
def nxS:Nat→Int
 | 0=>0
 | 1=>1
 | 2=>4
 | _=>5
def kidS:Nat→Int
 | 0=>3
 | 1=>2
 | _=>0
theorem kid_met {gf:Fr} {ob:Obs} (j:Nat) (hj:j < 3) (h0:B9 ob 820=some A45) (h1:B9 ob 821=some (b9 (stS j))) (h2:B9 ob 824=none) (h3:B9 ob 825=none) :
  AL.Met Tryz.prog 74 [A69,N0 (kidS j),N0 (nxS j)] gf ob [821,824,825] (fun rs ob'=>rs=[N0 (nxS (j+1))]∧ob'=(820,A45)::(821,b9 (stS (j+1)))::G3 [821,824,825] ob):=by
 match j,hj with
 | 0,_=>exact C41 3 ndE 0 [y4] rfl (.inr (.inr rfl)) (by decide) h0 h1 h2
 | 1,_=>exact H10 h0 h1 h2 h3
 | 2,_=>exact C41 0 ndS 4 [y4,A88,qSp,A47,A47] rfl (.inr (.inl rfl)) (by decide) h0 h1 h2
theorem kidS_at:∀j:Nat,j < 3→ndC.Kids[(2 - (j:Int)).toNat]?=some (kidS j):=three rfl rfl rfl
theorem I73 {gf:Fr} {ob:Obs} (h0:B9 ob 820=some A45) (h1:B9 ob 821=some (b9 [y4])) (h2:B9 ob 824=none) (h3:B9 ob 825=none) (h4:B9 ob 826=none) :
  AL.Met Tryz.prog 74 [A69,N0 4,N0 0] gf ob [821,824,825,826] (fun rs ob'=>rs=[N0 5]∧ob'=(820,A45)::(821,b9 (stS 3))::G3 [821,824,825,826] ob):=by
 refine AL.Met.introH Tryz.func74 (by decide) rfl rfl rfl (fun hH=>?_)
 refine D8 (I92 821 (l:=[(0,.s A69),(1,.s (N0 4)),(2,.s (N0 0))]) (L:=[(820,_),(821,_)]) ⟨le1 rfl,le1 rfl,le1 rfl,trivial⟩ hH (by repeat (first | exact B2 | refine B3 rfl ?_)) ⟨h0,h1,trivial⟩) ?_
 refine D8 (Sees.forget 824) ?_
 refine D8 (Sees.forget 825) ?_
 refine D8 (Sees.forget 826) ?_
 refine D8 (I91 (gf':=C7 [821,824,825,826] gf) (l:=[(0,.s A69),(1,.s (N0 4)),(2,.s (N0 0))]) (ob':=[(820,A45),(821,b9 [y4])]++G3 [821,824,825,826] ob) ⟨le1 rfl,le1 rfl,le1 rfl,trivial⟩ (E9 hH) (by repeat (first | exact B2 | refine tail_drop rfl ?_ | refine B3 rfl ?_ | refine H1 _ rfl ?_)) (E2 (L:=[(820,_),(821,_)]) ⟨rfl,rfl,trivial⟩ (by repeat (first | exact D5 | refine D6 rfl ?_)))) ?_
 have hf2:B9 (G3 [821,824,825,826] ob) 824=none:=M7 h2
 have hf3:B9 (G3 [821,824,825,826] ob) 825=none:=M7 h3
 have hf4:B9 (G3 [821,824,825,826] ob) 826=none:=M7 h4
 have hw:wt5[(4:Int).toNat]?=some 5:=rfl
 have hv:nodes5[(4:Int).toNat]?=some ndC:=rfl
 refine k2 (A2 (A6 V V (A4 ?_)));refine k1 (k2 (k2 (A2 (A3 V V (A5 (B4 V) V (A5 (A7 V) V (G4 V V V V (A3 V V (A5 (A9 V (.pure _ _ _ _) V (by omega) hw) V (A5 (A8 V V) V (A5 (F7 V V) V (A4 ?_))))))))))));refine k1 ?_;refine B0 rfl (fun ht=>?_) (fun ht=>?_)
 ·cases ht
 refine k5 (k1 (k2 (A2 (A3 V V (A5 (B4 V) V (A5 (A7 V) V (G4 V V V V (A3 V V (A5 (A9 V (.pure _ _ _ _) V (by omega) hv) V (A5 (D7 V V) V (C9 (A76 826 hf4 (by decide)) V (G8 (C1 TySz.out V V V V V V) (A4 ?_)))))))))))));refine k1 (k2 (k2 (A2 (A5 (A7 V) V (G4 V V V V (A4 ?_))))));refine k1 (k3 (k2 (A2 (A5 (F7 V V) V (A6 V V (A4 ?_))))));refine k1 ?_;refine B0 rfl (fun ht=>?_) (fun ht=>?_)
 ·cases ht
 refine k2 (A2 (A5 (F7 V V) V (A6 V V (A4 ?_))));refine k1 ?_;refine B0 rfl (fun ht=>?_) (fun ht=>?_)
 ·cases ht
 refine k2 (A2 (A5 (F7 V V) V (A6 V V (A4 ?_))));refine k1 ?_;refine B0 rfl (fun ht=>?_) (fun ht=>?_)
 ·cases ht
 refine k2 (A2 (A5 (F7 V V) V (A6 V V (A4 ?_))));refine k1 ?_;refine B0 rfl (fun ht=>?_) (fun ht=>?_)
 rotate_left
 ·cases ht
 refine k2 ?_
 have hl3:ndC.Kids.length=3:=rfl
 refine A2 (A5 (A7 V) V (G4 V V V V (E0 V V (A5 (K8 V V (by omega)) V (A6 V V (A4 ?_))))));refine k1 (k3 ?_);refine C5 (X:=Nat) (fun j=>([(0,.s A69),(2,C0 (nxS j)),(7,.s (.one (.ref 826 0))),(8,C0 (2 - (j:Int)))]++C7 [821,824,825,826] gf,[(820,A45),(821,b9 (stS j)),(826,.box ((cellsOf B11 ndC 0 8).map .p))]++G3 [821,824,825,826] ob)) (fun j=>j≤3) (fun j=>3 - j) 0 (Nat.zero_le _) ?_ ?_
 ·exact I91 ⟨le1 rfl,le1 rfl,le1 rfl,le1 rfl,trivial⟩ (E9 hH) (by repeat (first | exact B2 | refine tail_drop rfl ?_ | refine B3 rfl ?_ | refine H1 _ rfl ?_)) (E2 (L:=[(820,_),(821,_),(826,_)]) ⟨rfl,rfl,rfl,trivial⟩ (by repeat (first | exact D5 | refine D6 rfl ?_ | refine F3 hf4 ?_ | refine P9 _ rfl ?_)))
 intro j hj
 dsimp only at hj ⊢
 refine k2 (k2 (A2 (A3 V V (A5 (W5 V V) V (A4 ?_)))));refine k1 ?_;refine B0 rfl (fun ht=>?_) (fun ht=>?_)
 ·have hj3:j < 3:=by have:=A0 ht;omega
  have hk:=kidS_at j hj3
  refine k5 (k1 (k2 (k3 (A2 (A3 V V (A5 (A7 V) V (G4 V V V V (A3 V V (A5 (A9 V (.pure _ _ _ _) V (by omega) hk) V (A5 (A8 V V) V (A3 V V (L1 (kid_met j hj3 V V hf2 hf3) V V V ?_))))))))))));rintro _ _ ⟨rfl,rfl⟩;refine A6 V V (A4 ?_);refine k4 (k1 (A2 (A3 V V (A5 (K8 V V (by omega)) V (A6 V V (A4 ?_))))));refine k1 ?_;refine ⟨j+1,by omega,by omega,?_⟩
  rw [show (2:Int) - ((j+1:Nat):Int)=2 - (j:Int) - 1 by omega]
  exact I91 ⟨le1 rfl,le1 rfl,le1 rfl,le1 rfl,trivial⟩ (E9 hH) (by repeat (first | exact B2 | refine tail_drop rfl ?_ | refine B3 rfl ?_ | refine H1 _ rfl ?_)) (E2 (L:=[(820,_),(821,_),(826,_)]) ⟨rfl,rfl,rfl,trivial⟩ (by repeat (first | exact D5 | refine D6 rfl ?_ | refine F3 hf4 ?_ | refine P9 _ rfl ?_)))
 have hj3:j=3:=by have:=A1 ht;omega
 subst hj3
 refine k6 (k2 (A2 (A3 V V (A6 V V (A4 ?_)))));refine k1 (k10 ?_)
 exact G5 (K4 rfl rfl) (by repeat (first | exact B2 | refine tail_drop rfl ?_ | refine B3 rfl ?_ | refine H1 _ rfl ?_)) (E2 (L:=[(820,_),(821,_)]) ⟨rfl,rfl,trivial⟩ (by repeat (first | exact D5 | refine D6 rfl ?_ | refine F3 hf4 ?_ | refine P9 _ rfl ?_))) ⟨rfl,rfl⟩
set_option maxHeartbeats 1000000
abbrev auto5:AL.Auto:=⟨[y4,A88,qSp,A47,A47,qSta],5⟩
theorem I17:FnOk Tryz.prog 45 [B54 nodes5] (fun rs=>rs=[C65 auto5,F2 0]):=by
 have hn5:nodes5.length=5:=rfl
 refine FnOk.intro Tryz.func45 (by decide) V V V V ?_
 refine k2 (A2 (C9 (J4 2 V) V (A6 V V (A4 ?_))));refine k1 (k2 (A2 (A3 V V (D3 (H08) V V V ?_))));rintro _ rfl;refine A3 V V (H6 V V V (H6 V V V (A6 V V (A6 V V (A4 ?_)))));refine k1 (k2 (k3 (k2 (A2 (A3 V V (A5 (Q8 V V) V (A6 V V (A4 ?_))))))));refine k1 ?_;refine B0 rfl (fun ht=>?_) (fun ht=>?_)
 ·cases ht
 refine k2 (A2 (A3 V V (A5 (M5 V V) V (A6 V V (A4 ?_)))));refine k1 ?_;refine B0 rfl (fun ht=>?_) (fun ht=>?_)
 ·cases ht
 refine k5 (k2 (A2 (A3 V V (A3 V V (D3 (E00) V V V ?_)))));rintro _ rfl;refine A5 (K1 V) V (C9 (x4 820 V V V) V (A6 V V (A4 ?_)));refine k1 (D8 (I96 821 AL.State 7 Z1 132 (kb:=820) (o:=2) rfl rfl rfl) ?_)
 refine k2 (A2 (A3 V V (A5 (K1 V) V (L1 (B36 [] y4 (by decide) V V) V V V ?_))));rintro _ _ ⟨rfl,rfl⟩;refine A6 V V (A4 ?_);refine k1 (k2 (A2 (A3 V V (A3 V V (E0 V V (A5 (K8 V V (by omega)) V (A3 V V (L1 (I73 V V V V V) V V V ?_))))))));rintro _ _ ⟨rfl,rfl⟩;refine A6 V V (A4 ?_);refine k1 (k2 (A2 (A3 V V (A5 (B4 V) V (A5 (A7 V) V (G4 V V V V (A3 V V (A5 (K1 V) V (G8 (C1 TySz.out V V V V V V) (A6 V V (A4 ?_)))))))))));refine k1 (D8 (Sees.freezeG (k:=821) (α:=AL.State) (ec:=7) (c:=Z1) (xs:=stS 3) (e:=132) rfl rfl) ?_)
 refine k10 ?_
 exact B6 (rs:=[C65 auto5,F2 0]) (retc2 rfl rfl rfl rfl rfl rfl rfl) rfl
theorem G21:FnOk Tryz.prog 29 [M3 pat4] (fun rs=>rs=[C65 auto5,F2 0]):=by
 refine FnOk.intro Tryz.func29 (by decide) V V V V ?_
 refine k2 (A2 (C9 (J4 2 V) V (A6 V V (A4 ?_))));refine k1 (k2 (A2 (A3 V V (D3 (I14) V V V ?_))));rintro _ rfl;refine A3 V V (H6 V V V (H6 V V V (A6 V V (A6 V V (A4 ?_)))));refine k1 (k2 (k2 (A2 (A3 V V (A5 (Q8 V V) V (A4 ?_))))));refine k1 ?_;refine B0 rfl (fun ht=>?_) (fun ht=>?_)
 ·cases ht
 refine k5 (k1 (k2 (A2 (A3 V V (D3 (I17) V V V ?_)))));rintro _ rfl;refine H6 V V V (H6 V V V (G8 (C1 TySz.out V V V V V V) (A6 V V (A4 ?_))));refine k1 (k10 ?_)
 exact B6 (rs:=[C65 auto5,F2 0]) (retc2 rfl rfl rfl rfl rfl rfl rfl) rfl
theorem B37 {gf:Fr} {ob:Obs} (i n:Int) (h:B9 ob 3=some (.box [.p (.v (.int .i64 n))])) :
  AL.Met Tryz.prog 112 [N0 i,.one (.ref 3 0)] gf ob [] (fun rs ob'=>rs=[B07 (decide (0≤i∧i < n))]∧ob'=ob):=by
 refine AL.Met.intro Tryz.func112 (by decide) V V V ?_
 refine k2 (A2 (A6 V V (A4 ?_)));refine k1 (k2 (A2 (A3 V V (A5 (W5 V V) V (A3 V V (B1 V V V V (fun hg=>by rw [hg];exact B7 V V) ?_))))));refine B1 V V V V (fun hg=>by rw [hg];exact C4 V h V) ?_;refine B1 V V V V (fun hg=>by rw [hg];exact A60 V V) ?_;refine I6 V V ?_;refine A6 V V (A4 ?_);refine k1 (k10 ?_);refine G5 (K4 rfl rfl) (by repeat (first | exact B2 | refine B3 rfl ?_ | refine D1 _ ?_)) (fun _ _ h=>h) ⟨?_,rfl⟩
 rw [and_pick]
set_option maxHeartbeats 1000000
theorem H11:∀q∈auto5.States,decide (0≤q.Next∧q.Next < 6)=true∧decide (0≤q.Other∧q.Other < 6)=true∧(q.Kind=0∨q.Kind=1∨q.Kind=2∨q.Kind=3∨q.Kind=4):=by decide
theorem I18:FnOk Tryz.prog 82 [C65 auto5] (fun rs=>rs=[F2 0]):=by
 have hl:auto5.States.length=6:=rfl
 refine FnOk.intro Tryz.func82 (by decide) V V V V ?_
 refine k2 (A2 (A5 (o6 V V V) V (A6 V V (A4 ?_))));refine k1 (k2 (A2 (A5 (B8 V) V (A5 (A8 V V) V (E0 V V (C9 (J4 3 V) V (G8 (C1 TySz.out V V V V V V) (A4 ?_))))))));refine k1 (k2 (A2 (A5 (A08 V V) V (A6 V V (A4 ?_)))));refine k1 (k2 (k2 (A2 (G4 V V V V (E8 V V V (A3 V V (H0 V V V V (G4 V V V V (H0 V V V V (A5 (M5 V V) V (I6 V V ?_)))))))))));refine A3 V V (H0 V V V V (A3 V V (H0 V V V V (A5 (B8 V) V (H0 V V V V (A5 (A8 V V) V (H0 V V V V (B21 (B37 5 6 V) V V V V ?_))))))));rintro _ _ ⟨rfl,rfl⟩;refine H0 V V V V (A5 (U2 V) V (I6 V V ?_));refine A4 ?_;refine k1 ?_;refine B0 rfl (fun ht=>?_) (fun ht=>?_)
 ·cases ht
 refine k5 (k1 (k2 (k2 (A2 (A5 (B8 V) V (A5 (A8 V V) V (E0 V V (A3 V V (A4 ?_)))))))));refine k1 (k3 (C5 (X:=Nat) (fun i=>([(3,.s (.one (.ref 3 0))),(4,.s (.one (.clo 112 [] [(3,0)]))),(26,.s (H80 auto5.States).s1),(27,C0 auto5.States.length),(28,C0 i)],[(3,.box [.p (.v (.int .i64 6))])])) (fun i=>i≤auto5.States.length) (fun i=>auto5.States.length - i) 0 (Nat.zero_le _) (I90 ⟨le1 rfl,le1 rfl,le1 rfl,le1 rfl,le1 rfl,trivial⟩ ⟨rfl,trivial⟩) ?_))
 intro i hi
 dsimp only at hi ⊢
 refine k2 (A2 (E8 V V V (A4 ?_)));refine k1 (k2 ?_);refine B0 rfl (fun ht=>?_) (fun ht=>?_)
 ·have hlt:i < auto5.States.length:=Int.ofNat_lt.1 (A0 ht)
  obtain ⟨q,hq⟩:∃q,q=auto5.States[i]:=⟨_,rfl⟩
  have hv:auto5.States[i]?=some q:=by rw [hq];simp [hlt]
  obtain ⟨hN,hO,hK⟩:=H11 q (J32 hv)
  refine k5 (k1 (k2 (k3 (k2 (A2 (A5 (A9 V (.pure _ _ _ _) V (by omega) hv) V (A5 (D7 V V) V (C9 (J4 6 V) V (G8 (C1 TySz.out V V V V V V) (A4 ?_))))))))));refine k1 (k2 (A2 (A3 V V (A5 (A7 V) V (G4 V V V V (B21 (B37 q.Next 6 V) V V V V ?_))))));rintro _ _ ⟨rfl,rfl⟩;refine A6 V V (A4 ?_)
  rw [hN]
  refine k1 (k2 (k2 (A2 (A5 (A7 V) V (G4 V V V V (A4 ?_))))));refine k1 ?_;refine F19 [(3,.s (.one (.ref 3 0))),(4,.s (.one (.clo 112 [] [(3,0)]))),(26,.s (H80 auto5.States).s1),(27,C0 auto5.States.length),(28,C0 i),(7,P2 true)] [(3,.box [.p (.v (.int .i64 6))])] ?_ ?_
  ·refine k3 (k2 (k2 (A2 (A5 (F7 V V) V (A6 V V (A4 ?_))))));refine k1 ?_;refine B0 rfl (fun ht=>?_) (fun ht=>?_)
   ·refine k5 (k1 ?_);refine B0 rfl (fun ht=>?_) (fun ht=>?_)
    ·refine k5 (k4 (k1 ?_))
     exact I90 ⟨le1 rfl,le1 rfl,le1 rfl,le1 rfl,le1 rfl,le1 rfl,trivial⟩ ⟨rfl,trivial⟩
    ·exact absurd (A0 (by assumption)) (A1 ht)
   have hK0:¬q.Kind=0:=A1 ht
   refine k2 (A2 (A5 (F7 V V) V (A6 V V (A4 ?_))));refine k1 ?_;refine B0 rfl (fun ht=>?_) (fun ht=>?_)
   ·refine k5 (k1 ?_);refine B0 rfl (fun ht=>?_) (fun ht=>?_)
    ·refine k5 (k4 (k1 ?_))
     exact I90 ⟨le1 rfl,le1 rfl,le1 rfl,le1 rfl,le1 rfl,le1 rfl,trivial⟩ ⟨rfl,trivial⟩
    ·exact absurd (A0 (by assumption)) (A1 ht)
   have hK2:¬q.Kind=2:=A1 ht
   skip
   refine A2 (A5 (F7 V V) V (A6 V V (A4 ?_)));refine k1 ?_;refine B0 rfl (fun ht=>?_) (fun ht=>?_)
   ·refine k5 (k4 (k1 ?_))
    exact I90 ⟨le1 rfl,le1 rfl,le1 rfl,le1 rfl,le1 rfl,le1 rfl,trivial⟩ ⟨rfl,trivial⟩
   have hK3:¬q.Kind=3:=A1 ht
   refine k2 (A2 (A5 (F7 V V) V (A6 V V (A4 ?_))));refine k1 ?_;refine B0 rfl (fun ht=>?_) (fun ht=>?_)
   ·skip
    refine A2 (A3 V V (A3 V V (H0 V V V V (A3 V V (H0 V V V V (A5 (A7 V) V (H0 V V V V (G4 V V V V (H0 V V V V (B21 (B37 q.Other 6 V) V V V V ?_))))))))));rintro _ _ ⟨rfl,rfl⟩;refine I6 V V ?_;refine A6 V V (A4 ?_)
    rw [hO]
    refine k4 (k1 ?_)
    exact I90 ⟨le1 rfl,le1 rfl,le1 rfl,le1 rfl,le1 rfl,le1 rfl,trivial⟩ ⟨rfl,trivial⟩
   have hK1:¬q.Kind=1:=A1 ht
   refine k2 (A2 (A5 (F7 V V) V (A6 V V (A4 ?_))));refine k1 ?_;refine B0 rfl (fun ht=>?_) (fun ht=>?_)
   ·skip
    refine A2 (A6 V V (A4 ?_));refine k4 (k1 ?_)
    exact I90 ⟨le1 rfl,le1 rfl,le1 rfl,le1 rfl,le1 rfl,le1 rfl,trivial⟩ ⟨rfl,trivial⟩
   have hK4:¬q.Kind=4:=A1 ht
   exfalso
   omega
  refine k2 (A2 (A3 V V (A5 (U2 V) V (A4 ?_))));refine k1 ?_;refine B0 rfl (fun ht=>?_) (fun ht=>?_)
  ·cases ht
  refine k5 (k4 (k1 (A2 (D2 V V V (A3 V V (A4 ?_))))));refine k1 ?_
  exact ⟨i+1,Nat.succ_le_of_lt hlt,Nat.sub_lt_sub_left hlt (Nat.lt_succ_self i),I90 ⟨le1 rfl,le1 rfl,le1 rfl,le1 rfl,le1 rfl,trivial⟩ ⟨rfl,trivial⟩⟩
 refine k6 (k2 (A2 (A6 V V (A4 ?_))));refine k1 (k10 ?_)
 exact B6 (rs:=[F2 0]) (G7 rfl rfl rfl) rfl
set_option maxHeartbeats 1000000
theorem I74 (st:AL.State) (b e:Bool):FnOk Tryz.prog 142 [H37 st,H5 b,H5 e] (fun rs=>rs=[I5 (m9 st b e)]):=by
 refine FnOk.intro Tryz.func142 (by decide) V V V V ?_
 refine k2 (A2 (C9 (x4 3 V V V) V (A5 (I0 _ 1 E3) V (A4 ?_))));refine k1 (k2 (k2 (A2 (A5 (A7 V) V (G4 V V V V (A4 ?_))))));refine k1 (k3 (k2 (A2 (A5 (F7 V V) V (A6 V V (A4 ?_))))));refine k1 ?_;refine B0 rfl (fun ht=>?_) (fun ht=>?_)
 ·have h1:st.Kind=1:=A0 ht
  refine k2 (A2 (A5 (A7 V) V (G4 V V V V (A5 (A7 V) V (G4 V V V V (A5 (C3 (c:=E3) (ys:=[st.Next,st.Other]) (D4 V V V V (D4 V V V V F9)) V V V) V (A6 V V (A4 ?_))))))));refine k1 (k10 (k12 (k11 ?_)))
  exact B6 (rs:=[I5 [st.Next,st.Other]]) (G7 rfl rfl rfl) (by unfold m9;simp [h1])
 have h1:¬st.Kind=1:=A1 ht
 refine k2 (A2 (A5 (F7 V V) V (A6 V V (A4 ?_))));refine k1 ?_;refine B0 rfl (fun ht=>?_) (fun ht=>?_)
 ·have h2:st.Kind=2:=A0 ht
  refine k2 (A2 (A3 V V (A4 ?_)));refine k1 ?_;refine B0 rfl (fun ht=>?_) (fun ht=>?_)
  ·refine k2 (A2 (A5 (A7 V) V (G4 V V V V (A5 (C3 (c:=E3) (ys:=[st.Next]) (D4 V V V V F9) V V V) V (A6 V V (A4 ?_))))));refine k1 (k10 (k12 (k11 ?_)))
   exact B6 (rs:=[I5 [st.Next]]) (G7 rfl rfl rfl) (by unfold m9;simp [h2,ht])
  ·refine k5 (k2 (A2 (A5 (I0 _ 1 E3) V (A4 ?_))));refine k1 (k10 ?_)
   exact B6 (rs:=[I5 []]) (G7 rfl rfl rfl) (by unfold m9;simp [h2,ht])
 have h2:¬st.Kind=2:=A1 ht
 refine k2 (A2 (A5 (F7 V V) V (A6 V V (A4 ?_))));refine k1 ?_;refine B0 rfl (fun ht=>?_) (fun ht=>?_)
 ·have h3:st.Kind=3:=A0 ht
  refine k2 (A2 (A3 V V (A4 ?_)));refine k1 ?_;refine B0 rfl (fun ht=>?_) (fun ht=>?_)
  ·refine k2 (A2 (A5 (A7 V) V (G4 V V V V (A5 (C3 (c:=E3) (ys:=[st.Next]) (D4 V V V V F9) V V V) V (A6 V V (A4 ?_))))));refine k1 (k10 (k12 (k11 ?_)))
   exact B6 (rs:=[I5 [st.Next]]) (G7 rfl rfl rfl) (by unfold m9;simp [h3,ht])
  ·refine k5 (k2 (A2 (A5 (I0 _ 1 E3) V (A4 ?_))));refine k1 (k10 ?_)
   exact B6 (rs:=[I5 []]) (G7 rfl rfl rfl) (by unfold m9;simp [h3,ht])
 have h3:¬st.Kind=3:=A1 ht
 refine k5 (k2 (A2 (A5 (I0 _ 1 E3) V (A4 ?_))));refine k1 (k10 ?_)
 exact B6 (rs:=[I5 []]) (G7 rfl rfl rfl) (by unfold m9;simp [h1,h2,h3])
end Go.Proofs.YtgppobpengmbkaaGreatDoor
