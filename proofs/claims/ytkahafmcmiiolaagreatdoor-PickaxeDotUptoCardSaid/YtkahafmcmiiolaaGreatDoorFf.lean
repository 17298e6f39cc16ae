/- Walks of the program's functions. -/
import Derived.Test.YtkahafmcmiiolaaGreatDoorFe
import Derived.Test.YtkahafmcmiiolaaGreatDoorFd
import Derived.Test.YtkahafmcmiiolaaGreatDoorFs
import Derived.Test.YtkahafmcmiiolaaGreatDoorFa
import Derived.Test.YtkahafmcmiiolaaGreatDoorAn
import Derived.Test.YtkahafmcmiiolaaGreatDoorFb
set_option linter.unusedSimpArgs false
namespace Go.Proofs.YtkahafmcmiiolaaGreatDoor
open Go Go.AL
set_option maxRecDepth 100000
set_option maxHeartbeats 2000000
def E99:Nat→Nat
 | 0=>0
 | c+1=>5*E99 c+64
def E27:Nat→Nat
 | 0=>32
 | c+1=>2*E27 c+1
theorem bndG_le (c:Nat) (h:c≤6):(32≤E27 c∧E99 c≤1000000)∧E27 c≤2111:=by
 match c,h with
 | 0,_=>decide
 | 1,_=>decide
 | 2,_=>decide
 | 3,_=>decide
 | 4,_=>decide
 | 5,_=>decide
 | 6,_=>decide
theorem GG.mono {B B':Nat} {g:Graph} (h:GG B g) (hB:B≤B'):GG B' g:=⟨h.len,h.pars,fun c hc=>(h.files c hc).mono hB⟩
theorem J83 (raw:List Int) (n lines:Int) (hn:0≤n∧n≤6) (hl:0≤lines∧lines≤16):FnOk Tryz.prog 5 [K2 raw,F2 n,F2 lines] (fun rs=>∃g,rs=[J8 g]∧GG 1250000 g∧GV g):=by
 have hmi:=j2 (j3 raw 0) (n:=n+1) (by omega)
 obtain ⟨m,hm⟩:∃m:Nat,Z9 (j3 raw 0) (n+1)=(m:Int):=⟨(Z9 (j3 raw 0) (n+1)).toNat,by omega⟩
 have hm6:m≤6:=by omega
 refine FnOk.intro Tryz.func5 (by decide) J J J J ?_
 refine k2 (A2 (A6 J J (A4 ?_)));refine k1 (k2 (A2 (A3 J J (D7 (A66 raw 0 (by omega) (by omega)) J J J ?_))));rintro _ rfl;refine A3 J J (D6 J J J (D7 (C68 (j3 raw 0) (n+1) (by omega) (by omega)) J J J ?_));rintro _ rfl;refine A6 J J (A4 ?_)
 rw [hm]
 refine k1 (k2 (A2 (D1 (I13 7 (c:=G6) (ys:=([]:List Commit)) G5 J J J (by first | rfl | (simp [K0,K3,Ob.free,SV.free,S1.free,TC.free]<;>rfl))) J ?_)));refine A6 J J (A4 ?_);refine k1 (k2 (k2 (A2 (A6 J J (A4 ?_)))));refine k1 (k3 (D2 (X:=Nat × List Commit) (fun x=>([(0,D3 Int 1 E4 raw),(1,C3 m),(2,C3 lines),(7,.s (.one (.buf 7 Commit 3 G6 x.2))),(8,C3 x.1)],[(7,.spare x.2.length 3 38)])) (fun x=>x.1≤m∧x.2.length=x.1∧(∀y∈x.2,y.Parents.length≤3∧∀p∈y.Parents,0≤p∧p < (x.1:Int))∧(∀y∈x.2,GF (E99 x.1) y.Files)∧GU (E27 x.1) x.2) (fun x=>m - x.1) (0,[]) ⟨Nat.zero_le _,rfl,(fun _ h=>by cases h),(fun _ h=>by cases h),(fun _ _ h=>by cases h),(fun _ h=>by cases h),(fun _ h=>by cases h)⟩ (Sees.of ⟨le1 rfl,le1 rfl,le1 rfl,le1 rfl,le1 rfl,trivial⟩ ⟨rfl,trivial⟩) ?_))
 rintro ⟨c,gs⟩ ⟨hc,hgl,hgp,hgf,hgu⟩
 dsimp only at hc hgl hgp hgf hgu ⊢
 obtain ⟨⟨hb1,hb2⟩,hb3⟩:=bndG_le c (by omega)
 refine k2 (k2 (A2 (A3 J J (A3 J J (F3 J J J (A4 ?_))))));refine k1 ?_;refine B1 rfl (fun ht=>?_) (fun ht=>?_)
 rotate_left
 ·refine k6 (k2 (A2 (A3 J J (A3 J J (D7 (I73 gs raw (E99 c) (E27 c) ⟨by omega,by rw [hgl];exact hgp,hgf⟩ hgu (by omega) hb3) J J J ?_)))));rintro _ ⟨g',rfl,hg',hv'⟩;refine A6 J J (A4 ?_);refine k1 (k10 ?_)
  exact B6 (rs:=[J8 g']) (H3 rfl rfl rfl) ⟨g',rfl,GG.mono hg' (by omega),hv'⟩
 have hlt:c < m:=by have h1:=A0 ht;(try dsimp only at h1);omega
 refine k5 (k1 (k2 (k3 (k2 (A2 (A3 J J (A3 J J (D6 J J J (D7 (A66 raw (1000+(c:Int)) (by omega) (by omega)) J J J ?_)))))))));rintro _ rfl;refine D7 (C68 (j3 raw (1000+(c:Int))) 5 (by omega) (by omega)) J J J ?_;rintro _ rfl;refine A5 (J4 J) J (D1 (I4 9 J) J (H1 (C1 TySz.out J J J J J J) (A4 ?_)))
 have hdr:=j2 (j3 raw (1000+(c:Int))) (n:=5) (by omega)
 obtain ⟨d,hd⟩:∃d,d=Z9 (j3 raw (1000+(c:Int))) 5:=⟨_,rfl⟩
 rw [←hd] at hdr ⊢
 refine k1 (k2 (k2 (D8 (K69 753 Int 1 E4 3 (kb:=9) (o:=0) J J J) ?_)))
 refine A2 (A6 J J (A4 ?_));refine k1 (k3 (D2 (X:=Nat × List Int) (fun x=>([(0,D3 Int 1 E4 raw),(1,C3 m),(2,C3 lines),(7,.s (.one (.buf 7 Commit 3 G6 gs))),(8,C3 c),(9,.s (.one (.ref 9 0))),(10,C3 x.1)],[(7,.spare gs.length 3 38),(9,.box [.buf 753 Int 1 E4 x.2,.p (.v (.int .i64 d)),.p (.v (.slice none 0 0))]),(753,.spare x.2.length 1 3)])) (fun x=>x.1≤c∧x.2.length≤3∧(∀q∈x.2,0≤q∧q < (x.1:Int))∧x.2.Nodup) (fun x=>c - x.1) (0,[]) ⟨Nat.zero_le _,by simp,(fun _ h=>by cases h),List.nodup_nil⟩ (Sees.of ⟨le1 rfl,le1 rfl,le1 rfl,le1 rfl,le1 rfl,le1 rfl,le1 rfl,trivial⟩ ⟨rfl,rfl,rfl,trivial⟩) ?_))
 rintro ⟨p,ps⟩ ⟨hp,hpl,hps,hpn⟩
 dsimp only at hp hpl hps hpn ⊢
 refine k2 (k2 (A2 (A3 J J (A3 J J (F3 J J J (A4 ?_))))));refine k1 ?_;refine B1 rfl (fun ht=>?_) (fun ht=>?_)
 ·have hplt:p < c:=by have h1:=A0 ht;(try dsimp only at h1);omega
  refine k5 (k1 (k2 (k3 (k2 (A2 (A3 J J (A3 J J (A5 (A34 J J (by omega)) J (D6 J J J (A3 J J (D6 J J J (D7 (A66 raw (1100+40*(c:Int)+(p:Int)) (by omega) (by omega)) J J J ?_))))))))))));rintro _ rfl;refine A5 (B07 J J (by omega)) J (A5 (F7 J J) J (A3 J J (B3 J J J J (fun hg=>by rw [hg];exact A7 J) ?_)));refine B3 J J J J (fun hg=>by rw [hg];exact C9 J J J) ?_;refine B3 J J J J (fun hg=>by rw [hg];exact Z2 J (.buf _ _ _ _ _)) ?_;refine B3 J J J J (fun hg=>by rw [hg];exact B08 J J) ?_;refine K4 J J ?_;refine A4 ?_;refine k1 ?_;refine B1 rfl (fun ht=>?_) (fun ht=>?_)
  ·have h2:=(A0 (and_pick.symm.trans ht)).2
   skip
   refine A2 (A5 (A7 J) J (G7 J J J J (A3 J J (A5 (C5 (c:=E4) (ys:=[(p:Int)]) (E0 J J J J G5) J J J) J (D1 (J7 J J J (.pure _ _ _ _) (by (simp only [K87,K90];omega)) J) J (A5 (A7 J) J (H1 (C1 TySz.out J J J J J J) (A4 ?_))))))));refine k4 (k1 (A2 (A3 J J (D6 J J J (A6 J J (A4 ?_))))));refine k1 ?_;refine ⟨(p+1,ps++[(p:Int)]),⟨hplt,by rw [K86,List.length_singleton];omega,fun x hx=>?_,?_⟩,by dsimp only;omega,(Sees.of ⟨le1 rfl,le1 rfl,le1 rfl,le1 rfl,le1 rfl,le1 rfl,le1 rfl,trivial⟩ ⟨rfl,rfl,rfl,trivial⟩)⟩
   ·rcases List.mem_append.1 hx with hx | hx
    ·have:=hps x hx;dsimp only;omega
    ·rw [List.mem_singleton.1 hx];dsimp only;omega
   ·dsimp only
    refine List.nodup_append.2 ⟨hpn,by simp,fun a ha b hb e=>?_⟩
    have:=hps a ha
    rw [e,List.mem_singleton.1 hb] at this
    omega
  ·refine k5 (k4 (k1 (A2 (A3 J J (D6 J J J (A6 J J (A4 ?_)))))));refine k1 ?_
   exact ⟨(p+1,ps),⟨hplt,hpl,fun x hx=>by have:=hps x hx;dsimp only;omega,hpn⟩,by dsimp only;omega,(Sees.of ⟨le1 rfl,le1 rfl,le1 rfl,le1 rfl,le1 rfl,le1 rfl,le1 rfl,trivial⟩ ⟨rfl,rfl,rfl,trivial⟩)⟩
 refine k6 (k2 (k2 (A2 (A5 (A7 J) J (G7 J J J J (A5 (Z2 J (.buf _ _ _ _ _)) J (A5 (F7 J J) J (A3 J J (B3 J J J J (fun hg=>by rw [hg];exact B9 J J) ?_)))))))));refine B3 J J J J (fun hg=>by rw [hg];exact N4 J J) ?_;refine K4 J J ?_;refine A3 J J (B3 J J J J (fun hg=>by rw [hg];exact B9 J J) ?_);refine B3 J J J J (fun hg=>by rw [hg];exact B9 J J) ?_;refine B3 J J J J (fun hg=>by have hq:=hg;(try simp at hq);rw [hg];exact X0 J J (by omega)) ?_;refine B3 J J J J (fun hg=>by have hq:=hg;(try simp at hq);rw [hg];exact O6 (A66 raw (1500+(c:Int)) (by omega) (by omega)) J J) ?_;refine B3 J J J J (fun hg=>by have hq:=hg;(try simp at hq);rw [hg];exact B07 J J (by omega)) ?_;refine B3 J J J J (fun hg=>by rw [hg];exact N4 J J) ?_;refine K4 J J ?_;refine A4 ?_;refine k1 ?_;refine H05 (X:=List Int) (fun qs=>([(0,D3 Int 1 E4 raw),(1,C3 m),(2,C3 lines),(7,.s (.one (.buf 7 Commit 3 G6 gs))),(8,C3 c),(9,.s (.one (.ref 9 0)))],[(7,.spare gs.length 3 38),(9,.box [.p (.list Int 1 E4 qs),.p (.v (.int .i64 d)),.p (.v (.slice none 0 0))])])) (fun qs=>qs.length≤3∧(∀q∈qs,0≤q∧q < (c:Int))∧qs.Nodup) ?_ ?_
 ·refine B1 rfl (fun ht=>?_) (fun ht=>?_)
  ·rw [A20,A20,K83,K83] at ht
   have h2:=A0 ht.1.2
   skip
   refine A2 (A3 J J (A5 (L7 J J (by omega)) J (A5 (C5 (c:=E4) (ys:=[(c:Int) - 1]) (E0 J J J J G5) J J J) J (A5 (A7 J) J (H1 (C1 TySz.out J J J J J J) (A4 ?_))))));refine k1 ?_
   exact ⟨[(c:Int) - 1],⟨by simp,fun q hq=>by rw [List.mem_singleton.1 hq];omega,by simp⟩,Sees.trans (K73 9 0 rfl rfl rfl) (Sees.of ⟨le1 rfl,le1 rfl,le1 rfl,le1 rfl,le1 rfl,le1 rfl,trivial⟩ ⟨rfl,rfl,trivial⟩)⟩
  ·refine k5 (k1 ?_)
   exact ⟨ps,⟨hpl,fun q hq=>by have:=hps q hq;omega,hpn⟩,Sees.trans (K73 9 0 rfl rfl rfl) (Sees.of ⟨le1 rfl,le1 rfl,le1 rfl,le1 rfl,le1 rfl,le1 rfl,trivial⟩ ⟨rfl,rfl,trivial⟩)⟩
 rintro qs ⟨hql,hqs,hqn⟩
 dsimp only
 refine k2 (A2 (A3 J J (A3 J J (A5 (A34 J J (by omega)) J (D6 J J J (A3 J J (D7 (F94 raw (2000+200*(c:Int)) lines (by omega) hl) J J J ?_)))))));rintro _ ⟨fl,rfl,hfl,hfn⟩;refine A5 (A7 J) J (H1 (C1 TySz.out J J J J J J) (A4 ?_));refine k1 (k2 (k2 (A2 (A5 (A7 J) J (G7 J J J J (E5 J J (A5 (N4 J J) J (A3 J J (B3 J J J J (fun hg=>by rw [hg];exact B9 J J) ?_)))))))));refine B3 J J J J (fun hg=>by rw [hg];exact B9 J J) ?_;refine B3 J J J J (fun hg=>by have hq:=hg;(try simp at hq);rw [hg];exact X0 J J (by omega)) ?_;refine B3 J J J J (fun hg=>by have hq:=hg;(try simp at hq);rw [hg];exact O6 (A66 raw (1600+(c:Int)) (by omega) (by omega)) J J) ?_;refine B3 J J J J (fun hg=>by have hq:=hg;(try simp at hq);rw [hg];exact B07 J J (by omega)) ?_;refine B3 J J J J (fun hg=>by rw [hg];exact N4 J J) ?_;refine K4 J J ?_;refine A4 ?_;refine k1 ?_;refine H05 (X:=List File) (fun fs=>([(0,D3 Int 1 E4 raw),(1,C3 m),(2,C3 lines),(7,.s (.one (.buf 7 Commit 3 G6 gs))),(8,C3 c),(9,.s (.one (.ref 9 0)))],[(7,.spare gs.length 3 38),(9,.box [.p (.list Int 1 E4 qs),.p (.v (.int .i64 d)),.p (.list File 2 S7 fs)])])) (fun fs=>GF (E99 (c+1)) fs∧GN (E27 (c+1)) fs) ?_ ?_
 ·refine B1 rfl (fun ht=>?_) (fun ht=>?_)
  ·rw [A20,K83] at ht
   have h2:=A0 ht.1
   obtain ⟨q,qr,rfl⟩:∃q qr,qs=q::qr:=by
    cases qs with
    | nil=>simp at h2
    | cons q qr=>exact ⟨q,qr,rfl⟩
   have hqr:=hqs q (by simp)
   have hqg:q.toNat < gs.length:=by omega
   obtain ⟨cq,hcq⟩:∃cq,cq=gs[q.toNat]:=⟨_,rfl⟩
   have hvq:gs[q.toNat]?=some cq:=by rw [hcq];simp [hqg]
   have hcf:=hgf cq (by rw [hcq];exact K85 hqg)
   have hcn:=hgu.tree cq (by rw [hcq];exact K85 hqg)
   skip
   refine A2 (A3 J J (A5 (A7 J) J (G7 J J J J (A5 (B2 J (.pure _ _ _ _) J (by omega) (show (q::qr)[Int.toNat 0]?=some q from J)) J (A5 (B0 J J) J (A5 (B2 J (.buf _ _ _ _ _) J (by omega) hvq) J (A5 (B7 J) J (A5 (B0 J J) J (A3 J J (A3 J J (A5 (A34 J J (by omega)) J (D6 J J J (A3 J J (D7 (I70 cq.Files raw (2000+200*(c:Int)) lines (E99 c) (E27 c) hcf hcn hb1 (by omega) (by omega) hl) J J J ?_))))))))))))));rintro _ ⟨fl2,rfl,hfl2,hfn2⟩;refine A5 (A7 J) J (H1 (C1 TySz.out J J J J J J) (A4 ?_));refine k1 ?_
   exact ⟨fl2,⟨hfl2,hfn2⟩,(Sees.of ⟨le1 rfl,le1 rfl,le1 rfl,le1 rfl,le1 rfl,le1 rfl,trivial⟩ ⟨rfl,rfl,trivial⟩)⟩
  ·refine k5 (k1 ?_)
   exact ⟨fl,⟨hfl.mono (show 64≤E99 (c+1) by rw [E99];omega),hfn.mono (show 64≤E27 (c+1) by rw [E27];omega)⟩,(Sees.of ⟨le1 rfl,le1 rfl,le1 rfl,le1 rfl,le1 rfl,le1 rfl,trivial⟩ ⟨rfl,rfl,trivial⟩)⟩
 rintro fs ⟨hfs,hfsn⟩
 dsimp only
 skip
 refine A2 (A3 J J (A5 (M6 J J J) J (A5 (C5 (c:=G6) (ys:=[⟨qs,d,fs⟩]) (E0 J J J J G5) J J J) J (D1 (J7 J J J (.pure _ _ _ _) (by (simp only [K87,K90];omega)) J) J (A6 J J (A4 ?_))))));refine k4 (k1 (A2 (A3 J J (D6 J J J (A6 J J (A4 ?_))))));refine k1 ?_;refine ⟨(c+1,gs++[⟨qs,d,fs⟩]),⟨hlt,by dsimp only;rw [K86,List.length_singleton,hgl],fun y hy=>?_,fun y hy=>?_,fun j p hj=>?_,fun y hy=>?_,fun y hy=>?_⟩,by dsimp only;omega,(Sees.of ⟨le1 rfl,le1 rfl,le1 rfl,le1 rfl,le1 rfl,trivial⟩ ⟨rfl,trivial⟩)⟩
 ·rcases List.mem_append.1 hy with hy | hy
  ·exact ⟨(hgp y hy).1,fun p hp=>by have:=(hgp y hy).2 p hp;dsimp only;omega⟩
  ·rw [List.mem_singleton.1 hy];exact ⟨hql,fun p hp=>by have:=hqs p hp;dsimp only;omega⟩
 ·rcases List.mem_append.1 hy with hy | hy
  ·exact (hgf y hy).mono (show E99 c≤E99 (c+1) by rw [E99];omega)
  ·rw [List.mem_singleton.1 hy];exact hfs
 ·dsimp only at hj
  unfold E6 at hj
  rcases Nat.lt_trichotomy j gs.length with h1 | h1 | h1
  ·rw [K97 h1] at hj;exact hgu.up j p hj
  ·subst h1
   rw [List.getElem?_concat_length] at hj
   have:=hqs p hj
   omega
  ·rw [K98 (by rw [K86,List.length_singleton];omega)] at hj;cases hj
 ·rcases List.mem_append.1 hy with hy | hy
  ·exact hgu.nice y hy
  ·rw [List.mem_singleton.1 hy];exact ⟨hqn,by dsimp only;omega,by dsimp only;omega⟩
 ·rcases List.mem_append.1 hy with hy | hy
  ·exact (hgu.tree y hy).mono (show E27 c≤E27 (c+1) by rw [E27];omega)
  ·rw [List.mem_singleton.1 hy];exact hfsn
set_option maxHeartbeats 2000000
theorem D58 (a:List Int) (ha:a.length≤1099511627776):FnOk Tryz.prog 23 [K2 a,K2 a] (fun rs=>rs=[H9 true]):=by
 refine FnOk.intro Tryz.func23 (by decide) J J J J ?_
 refine k2 (A2 (A6 J J (A4 ?_)));refine k1 (k2 (k2 (A2 (A3 J J (E5 J J (A3 J J (E5 J J (A5 (R2 J J) J (A4 ?_)))))))));refine k1 ?_;refine B1 rfl (fun ht=>?_) (fun ht=>?_)
 ·exact absurd rfl (A0 ht)
 refine k5 (k1 (k2 (k2 (A2 (A6 J J (A4 ?_))))));refine k1 (k3 (D2 (X:=Nat) (fun i=>([(0,D3 Int 1 E4 a),(1,D3 Int 1 E4 a),(5,C3 i)],[])) (fun i=>i≤a.length) (fun i=>a.length - i) 0 (Nat.zero_le _) (Sees.of ⟨le1 rfl,le1 rfl,le1 rfl,trivial⟩ trivial) ?_))
 intro i hi
 dsimp only at hi ⊢
 refine k2 (k2 (A2 (A3 J J (A3 J J (E5 J J (F3 J J J (A4 ?_)))))));refine k1 ?_;refine B1 rfl (fun ht=>?_) (fun ht=>?_)
 ·have hlt:i < a.length:=by have:=A0 ht;omega
  have hv:=getI hlt
  refine k5 (k1 (k2 (k3 (k2 (E8 (by kernel_rfl) (by kernel_rfl) (E3 J J (E3 J J (B5 (B2 J (.pure _ _ _ _) J (by omega) hv) J J (B5 (B0 J J) J J (E3 J J (E3 J J (B5 (B2 J (.pure _ _ _ _) J (by omega) hv) J J (B5 (B0 J J) J J (B5 (R2 J J) J J (P2 ?_)))))))))))))));refine k1 ?_;refine B1 rfl (fun ht=>?_) (fun ht=>?_)
  ·exact absurd rfl (A0 ht)
  refine k5 (k4 (k1 (A2 (A3 J J (D6 J J J (A6 J J (A4 ?_)))))));refine k1 ?_
  exact ⟨i+1,by omega,by omega,Sees.of ⟨le1 rfl,le1 rfl,le1 rfl,trivial⟩ trivial⟩
 ·refine k6 (k2 (A2 (A6 J J (A4 ?_))));refine k1 (k10 ?_)
  exact B6 (rs:=[H9 true]) (H3 rfl rfl rfl) rfl
abbrev g0:Graph:=[⟨[],0,[⟨[120],[97,97]⟩]⟩]
set_option maxHeartbeats 2000000
abbrev F55 (A:AL.Auto) (x:Str × Str):Bool:=decide (0 < (y6 (A27 A) x.1 x.2).length)
theorem D93 {l:List File} (h:F8 l=0) (p:Str):M2 (N3 l p)=0:=by
 unfold N3
 cases hf:I5 l p with
 | none=>decide
 | some x =>
  obtain ⟨y,hy,_,rfl⟩:=A06 hf
  exact (y4 h).2.2.1 y hy
theorem H56:F8 []=0:=by decide
theorem D94 {g:Graph} (h:Valid g) (c:Nat):F8 (L1 g c)=0:=by
 unfold L1
 by_cases hc:c < g.length
 ·rw [K82 hc]
  exact h.tree _ (K85 hc)
 ·rw [K98 (by omega)];exact H56
theorem D95 {g:Graph} (h:Valid g) {c:Nat} {x:Str × Str} (hx:x∈(M8 g c).flatten):M2 x.1=0∧M2 x.2=0:=by
 obtain ⟨l,hl,hxl⟩:=List.mem_flatten.1 hx
 obtain ⟨t,ht,rfl⟩:=List.mem_map.1 hl
 obtain ⟨d,_,rfl⟩:=List.mem_map.1 hxl
 refine ⟨D93 ?_ _,D93 (D94 h c) _⟩
 unfold L9 at ht
 split at ht
 ·rw [List.mem_singleton.1 ht];exact H56
 ·obtain ⟨p,_,rfl⟩:=List.mem_map.1 ht
  exact D94 h _
theorem C74 (g:Graph) (s:Int) (p:Str) (A:AL.Auto) (hA:AG A) (hF:FewT g) (hS:Short g) (hc:FnOk Tryz.prog 24 [J6 p] (fun rs=>rs=[A52 A,F2 0])) :
  FnOk Tryz.prog 8 [J8 g,F2 s,J6 p] (fun rs=>rs=[K2 (L5 (F55 A) g s).1,F2 (L5 (F55 A) g s).2]):=by
 have hP:=D90 g s 26 Unit 2 (E93 A) () (F55 A) hF hS (fun hv c _ x hx=>by
  obtain ⟨h1,h2⟩:=D95 hv hx
  exact H52 A hA x.1 x.2 h1 h2)
 obtain ⟨R,hR⟩:∃R,R=L5 (F55 A) g s:=⟨_,rfl⟩
 rw [←hR] at hP ⊢
 refine FnOk.intro Tryz.func8 (by decide) J J J J ?_
 refine k2 (A2 (A5 (J5 _ 1 E4) J (A6 J J (A4 ?_))));refine k1 (k2 (A2 (A3 J J (D7 (hc) J J J ?_))));rintro _ rfl;refine A3 J J (H0 J J J (H0 J J J (D1 (I4 8 J) J (H1 (C1 TySz.out J J J J J J) (A6 J J (A4 ?_))))));refine k1 (k2 (k2 (A2 (A3 J J (A5 (R2 J J) J (A4 ?_))))));refine k1 ?_;refine B1 rfl (fun ht=>?_) (fun ht=>?_)
 ·cases ht
 refine k5 (k1 (k2 (D8 (K74 (t:=8) (k:=8) (cs:=[Cell.list AL.State 7 A51 A.States,Cell.v (.int .i64 A.Start)]) J J J J) ?_)))
 refine A2 (A3 J J (A3 J J (A5 (D80 J) J (B12 (hP) J J J J ?_))));rintro _ _ ⟨rfl,rfl⟩;refine ⟨rfl,?_⟩;refine H0 J J J (H0 J J J (A6 J J (A6 J J (A4 ?_))));refine k1 (k10 ?_)
 exact B6 (rs:=[K2 R.1,F2 R.2]) (Z6 rfl rfl rfl rfl rfl) rfl
abbrev autoW:AL.Auto:=⟨[⟨4,⟨0,0,0,0⟩,0,0⟩,⟨3,⟨0,0,0,0⟩,0,0⟩,⟨1,⟨0,0,0,0⟩,3,1⟩,⟨0,⟨0,8589934592,0,0⟩,2,0⟩,⟨0,⟨0,8589934592,0,0⟩,2,0⟩,⟨2,⟨0,0,0,0⟩,4,0⟩],5⟩
theorem H57:FnOk Tryz.prog 24 [J6 pat4] (fun rs=>rs=[A52 autoW,F2 0]) :=
 B96 pat4 D54 autoW J71 (C73 D54 autoW.States 5 20 (by kernel_rfl) (by decide) (by rw [show topW D54=5 by kernel_rfl];decide) (by kernel_rfl) (by decide))
abbrev bb:Str:=[97,97]
abbrev g1:Graph:=[⟨[],0,[⟨[120],bb⟩]⟩]
theorem I74:FewT g1:=⟨⟨by decide,by decide⟩,fun c hc=>by rw [List.mem_singleton.1 hc];exact ⟨by decide,by decide,by decide⟩⟩
theorem F00:Short g1:=fun c=>by
 unfold L1
 cases c with
 | zero=>decide
 | succ c=>simp
theorem scr_bb:A82 [] [bb]=[⟨0,0,0,1⟩]:=by
 unfold A82
 rw [show N0 (H5 [[],[bb]]) []=[] by kernel_rfl,show N0 (H5 [[],[bb]]) [bb]=[0] by kernel_rfl]
 unfold B51
 rw [Y4]
 rfl
theorem rex_bb:F55 autoW ([],bb)=true:=by
 show decide (0 < (V6 (A27 autoW) (F1 []) (F1 bb) (A82 (F1 []) (F1 bb))).length)=true
 rw [show F1 []=[] by kernel_rfl,show F1 bb=[bb] by kernel_rfl,scr_bb]
 kernel_rfl
theorem J84:L5 (F55 autoW) g1 0=([0],0):=by
 have h0:Q4 g1 0=([0],0):=by kernel_rfl
 have h1:M8 g1 0=[[([],bb)]]:=by kernel_rfl
 unfold L5
 rw [h0,if_neg (fun e=>e rfl)]
 simp only [L26,List.filter_nil,T0,Int.toNat_zero,h1,List.any_cons,List.any_nil,rex_bb,Bool.or_false,if_true]
theorem lit1:x2 g1 0 [97]=([0],0):=by kernel_rfl
theorem cnt1:x3 g1 0 [97]=([2],0):=by kernel_rfl
theorem F95:FnOk Tryz.prog 6 [] (fun rs=>rs=[H9 true]):=by
 have hL:=H47 g1 0 [97] I74 F00 (by decide)
 have hC:=I53 g1 0 [97] I74 F00 (by decide)
 have hR:=C74 g1 0 pat4 autoW (I00 (by kernel_rfl)) I74 F00 H57
 rw [lit1] at hL
 rw [cnt1] at hC
 rw [J84] at hR
 refine FnOk.intro Tryz.func6 (by decide) J J J J ?_
 refine k2 (A2 (A6 J J (A4 ?_)));refine k1 (k2 (A2 (A5 (J4 J) J (A5 (C5 (c:=S7) (ys:=[(⟨[120],[97,97]⟩:File)]) (E0 J J J J G5) J J J) J (A5 (J4 J) J (D41 ((K63 Int 1 E4 10 0 J J)) (A5 (C5 (c:=G6) (ys:=g1) (E0 J J J J G5) J J J) J (A6 J J (A4 ?_)))))))));refine k1 (k2 (A2 (A3 J J (D7 (hL) J J J ?_))));rintro _ rfl;refine A3 J J (H0 J J J (H0 J J J (A6 J J (A6 J J (A4 ?_)))));refine k1 (k2 (A2 (A3 J J (D7 (hR) J J J ?_))));rintro _ rfl;refine A3 J J (H0 J J J (H0 J J J (A6 J J (A6 J J (A4 ?_)))));refine k1 (k2 (A2 (A3 J J (D7 (hC) J J J ?_))));rintro _ rfl;refine A3 J J (H0 J J J (H0 J J J (A6 J J (A6 J J (A4 ?_)))));refine k1 (k2 (A2 (A3 J J (A5 (F7 J J) J (A3 J J (H4 J J J J (A3 J J (H4 J J J J (A5 (F7 J J) J (A5 (R3 J (rfl) J) J (A3 J J (H4 J J J J (A3 J J (H4 J J J J (A5 (F7 J J) J (A5 (R3 J (rfl) J) J (A3 J J (H4 J J J J (A3 J J (H4 J J J J (A5 (C5 (c:=E4) (ys:=[(0:Int)]) (E0 J J J J G5) J J J) J (H4 J J J J (D7 (D58 [0] (by decide)) J J J ?_)))))))))))))))))))))));rintro _ rfl;refine A5 (R3 J (rfl) J) J (A3 J J (H4 J J J J (A3 J J (H4 J J J J (A5 (C5 (c:=E4) (ys:=[(0:Int)]) (E0 J J J J G5) J J J) J (H4 J J J J (D7 (D58 [0] (by decide)) J J J ?_)))))));rintro _ rfl;refine A5 (R3 J (rfl) J) J (A3 J J (H4 J J J J (A3 J J (H4 J J J J (A5 (C5 (c:=E4) (ys:=[(2:Int)]) (E0 J J J J G5) J J J) J (H4 J J J J (D7 (D58 [2] (by decide)) J J J ?_)))))));rintro _ rfl;refine A5 (R3 J (rfl) J) J (A6 J J (A4 ?_));refine k1 (k10 ?_)
 exact B6 (rs:=[H9 true]) (H3 rfl rfl rfl) rfl
set_option maxHeartbeats 2000000
theorem kids_of {L:List AL.Node} (h:(L.all fun n=>decide (n.Kids.length≤4000))=true):∀n∈L,n.Kids.length≤4000:=fun n hn=>A0 (List.all_eq_true.1 h n hn)
theorem H58 (p:Str) (A:AL.Auto) (hsim:∀c∈p,p9 c=true) (hp:p.length≤256) (hc:B60 (B15 p)=0) (hk:((B15 p).all fun n=>decide (n.Kids.length≤4000))=true) (hw:decide (topW (B15 p)≤4000)=true) (hb:V3 (B15 p) (Y7 (B15 p)) 20 (((B15 p).length:Int) - 1) 0 [⟨4,⟨0,0,0,0⟩,0,0⟩]=some (A.States,A.Start)) (hst:A.States.length≤20000) :
  FnOk Tryz.prog 24 [J6 p] (fun rs=>rs=[A52 A,F2 0]) :=
 B96 p (B15 p) A (J81 p hsim hp) (C73 (B15 p) A.States A.Start 20 hc (kids_of hk) (A0 hw) hb hst)
end Go.Proofs.YtkahafmcmiiolaaGreatDoor
namespace Go.Proofs.YtkahafmcmiiolaaGreatDoor
open Go Go.AL
set_option maxRecDepth 100000
def octOk (c:UInt8):Prop:=48≤c.toNat∧c.toNat≤55
def H59 (s:Str) (i q:Nat):Prop:=i+q < s.length∧octOk (s.getD (i+q) 0)
instance (s:Str) (i q:Nat):Decidable (H59 s i q):=by unfold H59 octOk;exact inferInstance
set_option maxHeartbeats 1000000
set_option maxHeartbeats 1000000
theorem F56 (s p:Str):FnOk Tryz.prog 204 [J6 s,J6 p] (fun rs=>rs=[H9 (decide (s.take p.length=p))]):=by
 refine FnOk.intro Tryz.func204 (by decide) J J J J ?_
 refine k2 (A2 (A6 J J (A4 ?_)));refine k1 (k2 (A2 (A3 J J (A5 (I6 J) J (A3 J J (A5 (I6 J) J (A5 (V4 J J) J (A3 J J (B3 J J J J (fun hg=>by rw [hg];exact B9 J J) ?_)))))))));refine B3 J J J J (fun hg=>by rw [hg];exact B9 J J) ?_;refine B3 J J J J (fun hg=>by rw [hg];exact I6 J) ?_;refine B3 J J J J (fun hg=>by have hq:=hg;(try simp at hq);rw [hg];exact C15 J J (by omega) (by omega)) ?_;refine B3 J J J J (fun hg=>by rw [hg];exact B9 J J) ?_;refine B3 J J J J (fun hg=>by rw [hg];exact c9 J J) ?_;refine K4 J J ?_;refine A6 J J (A4 ?_)
 simp only [and_pick,K84]
 refine k1 (k10 (B6 (H3 J J J) ?_))
 congr 4
 congr 1
 apply propext;constructor
 ·intro h;exact h.2
 ·intro h
  refine ⟨?_,h⟩
  have:=congrArg List.length h
  rw [K92] at this;omega
def cutP (s p:Str):List PV:=if s.take p.length=p then [J6 (s.drop p.length),H9 true] else [J6 s,H9 false]
theorem F57 (s p:Str):FnOk Tryz.prog 201 [J6 s,J6 p] (fun rs=>rs=cutP s p):=by
 refine FnOk.intro Tryz.func201 (by decide) J J J J ?_
 refine k2 (A2 (A6 J J (A6 J J (A4 ?_))));refine k1 (k2 (k2 (A2 (A3 J J (A3 J J (D7 (F56 s p) J J J ?_))))));rintro _ rfl;refine A5 (Q8 J) J (A4 ?_);refine k1 ?_;refine B1 rfl (fun ht=>?_) (fun ht=>?_)
 ·have h:¬s.take p.length=p:=by intro h;rw [decide_eq_true h] at ht;cases ht
  refine k2 (A2 (A3 J J (A6 J J (A6 J J (A4 ?_)))));refine k1 (k10 (k11 ?_))
  exact B6 (rs:=[J6 s,H9 false]) (Z6 rfl rfl rfl rfl rfl) (by unfold cutP;rw [if_neg h])
 ·have h:s.take p.length=p:=by
   by_cases h:s.take p.length=p
   ·exact h
   ·rw [decide_eq_false h] at ht;cases ht
  have hl:p.length≤s.length:=by
   have:=congrArg List.length h
   rw [K92] at this;omega
  refine k5 (k1 (k2 (A2 (A3 J J (A3 J J (A5 (I6 J) J (A5 (C89 J J (by omega) (by omega)) J (A6 J J (A6 J J (A4 ?_))))))))));refine k1 (k10 ?_)
  exact B6 (rs:=[J6 (s.drop p.length),H9 true]) (Z6 rfl rfl rfl rfl rfl) (by unfold cutP;rw [if_pos h])
theorem G63 (s p:Str):FnOk Tryz.prog 196 [J6 s,J6 p] (fun rs=>rs=cutP s p):=by
 have hc:=F57 s p
 unfold cutP at hc ⊢
 by_cases h:s.take p.length=p
 ·rw [if_pos h] at hc ⊢
  refine FnOk.intro Tryz.func196 (by decide) J J J J ?_
  refine k2 (A2 (A6 J J (A6 J J (A4 ?_))));refine k1 (k2 (A2 (A3 J J (A3 J J (D7 (hc) J J J ?_)))));rintro _ rfl;refine H0 J J J (H0 J J J (A6 J J (A6 J J (A4 ?_))));refine k1 (k10 ?_)
  exact B6 (Z6 rfl rfl rfl rfl rfl) rfl
 ·rw [if_neg h] at hc ⊢
  refine FnOk.intro Tryz.func196 (by decide) J J J J ?_
  refine k2 (A2 (A6 J J (A6 J J (A4 ?_))));refine k1 (k2 (A2 (A3 J J (A3 J J (D7 (hc) J J J ?_)))));rintro _ rfl;refine H0 J J J (H0 J J J (A6 J J (A6 J J (A4 ?_))));refine k1 (k10 ?_)
  exact B6 (Z6 rfl rfl rfl rfl rfl) rfl
set_option maxHeartbeats 1000000
theorem K44 (z:Set4) (hz:A79 z) (n:Int) (h0:0≤n) (h1:n≤255):FnOk Tryz.prog 191 [A13 z,.one (.v (.int .u8 n))] (fun rs=>rs=[A13 (z.with_ n.toNat)]):=by
 have h2:=J21 z hz (UInt8.ofNat n.toNat)
 have h3:(UInt8.ofNat n.toNat).toNat=n.toNat:=by rw [UInt8.toNat_ofNat'];omega
 rw [h3] at h2
 have h4:((n.toNat:Nat):Int)=n:=by omega
 rwa [show pByte (UInt8.ofNat n.toNat)=.one (.v (.int .u8 n)) by show PV.one (.v (.int .u8 ((UInt8.ofNat n.toNat).toNat:Int)))=_;rw [h3,h4]] at h2
theorem u8_in {n:Int} (h0:0≤n) (h1:n≤255):IntKind.u8.wrap n=n:=by simp [IntKind.wrap,IntKind.signed,IntKind.bits];omega
theorem I75 (z:Set4) (hz:A79 z) (a b:UInt8) (hab:a.toNat≤b.toNat):FnOk Tryz.prog 199 [A13 z,pByte a,pByte b] (fun rs=>rs=[A13 (z.through a.toNat b.toNat)]):=by
 have ha:=a.toNat_lt
 have hb:=b.toNat_lt
 refine FnOk.intro Tryz.func199 (by decide) J J J J ?_
 refine k2 (A2 (D1 (i6 3 J J J) J (D1 (I4 6 J) J (A4 ?_))));refine k1 (k2 (k2 (A2 (A3 J J (A5 (B32 J (B77 (by omega))) J (A6 J J (A4 ?_)))))));refine k1 (k3 ?_);refine D2 (X:=Nat) (fun i=>([(2,.s (U2 b)),(3,.s (.one (.ref 3 0))),(6,.s (.one (.ref 6 0))),(7,C3 ((a.toNat:Int)+i))],[(3,.box [.p (.v (.int .u64 (T7 i a.toNat z).a)),.p (.v (.int .u64 (T7 i a.toNat z).b)),.p (.v (.int .u64 (T7 i a.toNat z).c)),.p (.v (.int .u64 (T7 i a.toNat z).d))]),(6,.box [.p (.v (.int .u64 0)),.p (.v (.int .u64 0)),.p (.v (.int .u64 0)),.p (.v (.int .u64 0))])])) (fun i=>i≤b.toNat+1 - a.toNat) (fun i=>b.toNat+1 - a.toNat - i) 0 (Nat.zero_le _) ?_ ?_
 ·rw [show (a.toNat:Int)+((0:Nat):Int)=(a.toNat:Int) by omega]
  exact Sees.of ⟨le1 rfl,le1 rfl,le1 rfl,le1 rfl,trivial⟩ ⟨rfl,rfl,trivial⟩
 intro i hi
 dsimp only at hi ⊢
 have hg:=C12 i a.toNat hz
 have hsn:=C13 i a.toNat z
 obtain ⟨w,hw⟩:∃w,w=T7 i a.toNat z:=⟨_,rfl⟩
 rw [←hw] at hg hsn ⊢
 refine k2 (k2 (A2 (A3 J J (A3 J J (A5 (B32 J (B77 (by omega))) J (A5 (B74 J J) J (A4 ?_)))))));refine k1 ?_;refine B1 rfl (fun ht=>?_) (fun ht=>?_)
 ·have hle:=A0 ht
  have e1:((a.toNat:Int)+(i:Int)).toNat=a.toNat+i:=by omega
  refine k5 (k1 (k2 (k3 (A2 (A5 (M6 J J J) J (A3 J J (A5 (B32 J (u8_in (by omega) (by omega))) J (D7 (K44 w hg ((a.toNat:Int)+(i:Int)) (by omega) (by omega)) J J J ?_))))))));rintro _ rfl;refine H1 (C1 TySz.out J J J J J J) (A4 ?_)
  rw [e1,←hsn]
  refine k4 (k1 (A2 (A3 J J (D6 J J J (A6 J J (A4 ?_))))));refine k1 ?_;refine ⟨i+1,by omega,by omega,?_⟩
  rw [show (a.toNat:Int)+((i+1:Nat):Int)=(a.toNat:Int)+(i:Int)+1 by omega]
  exact Sees.of ⟨le1 rfl,le1 rfl,le1 rfl,le1 rfl,trivial⟩ ⟨rfl,rfl,trivial⟩
 have hie:i=b.toNat+1 - a.toNat:=by have:=A1 ht;omega
 have hfin:w=z.through a.toNat b.toNat:=by rw [hw,hie];rfl
 rw [hfin]
 refine k6 (k2 (A2 (A5 (M6 J J J) J (H1 (C1 TySz.out J J J J J J) (A4 ?_)))));refine k1 (k10 ?_)
 exact B6 (rs:=[A13 (z.through a.toNat b.toNat)]) (retc rfl rfl rfl rfl rfl) rfl
abbrev D09:Str:=[100,105,103,105,116]
abbrev digSet:Set4:=⟨287948901175001088,0,0,0⟩
theorem H60:FnOk Tryz.prog 198 [A13 set0,J6 D09] (fun rs=>rs=[A13 digSet]):=by
 have hth:=I75 set0 F93 48 57 (by decide)
 rw [show set0.through (UInt8.toNat 48) (UInt8.toNat 57)=digSet by kernel_rfl] at hth
 refine FnOk.intro Tryz.func198 (by decide) J J J J ?_
 refine k2 (A2 (D1 (i6 2 J J J) J (D1 (I4 4 J) J (A4 ?_))));refine k1 (k2 (k2 (A2 (A3 J J (A4 ?_)))));refine k1 (k3 (k2 (A2 (A5 (c9 J J) J (A6 J J (A4 ?_))))));refine k1 ?_;refine B1 rfl (fun ht=>?_) (fun ht=>?_)
 ·exact absurd (A0 (by assumption)) (by decide)
 refine k2 (A2 (A5 (c9 J J) J (A6 J J (A4 ?_))));refine k1 ?_;refine B1 rfl (fun ht=>?_) (fun ht=>?_)
 rotate_left
 ·exact absurd rfl (A1 (by assumption))
 refine k2 (A2 (A5 (M6 J J J) J (D7 (hth) J J J ?_)));rintro _ rfl;refine H1 (C1 TySz.out J J J J J J) (A4 ?_);refine k1 (k10 (k12 (k11 ?_)))
 exact B6 (rs:=[A13 digSet]) (retc rfl rfl rfl rfl rfl) rfl
abbrev q8:Str:=[91,91,58,100,105,103,105,116,58,93,93]
abbrev H61:Str:=[100,105,103,105,116,58,93,93]
theorem G64 (s nd:Str) (hs:s.length < 4294967281):FnOk Tryz.prog 143 [J6 s,J6 nd] (fun rs=>rs=[F2 (Lib.index s nd)]) :=
 K67 (xs:=[.string ⟨s.toArray⟩,.string ⟨nd.toArray⟩]) ⟨_,rfl,rfl,rfl⟩ rfl fun w hg=>by
  obtain ⟨m,hm⟩:=D83 hg
  refine (Tryz.stringslite_Index ⟨s.toArray⟩ ⟨nd.toArray⟩ m w hs hm).mono ?_
  rintro e w' ⟨rfl,rfl⟩
  exact ⟨by simp,rfl,rfl,rfl,Nat.le_refl _,fun _ _=>rfl⟩
theorem H62:FnOk Tryz.prog 202 [J6 H61,J6 [58,93]] (fun rs=>rs=[J6 D09,J6 [93],H9 true]):=by
 have hI:=G64 H61 [58,93] (by decide)
 rw [show Lib.index H61 [58,93]=5 by kernel_rfl] at hI
 refine FnOk.intro Tryz.func202 (by decide) J J J J ?_
 refine k2 (A2 (A6 J J (A6 J J (A6 J J (A4 ?_)))));refine k1 (k2 (k2 (A2 (A3 J J (A3 J J (D7 (hI) J J J ?_))))));rintro _ rfl;refine A6 J J (A4 ?_);refine k1 (k2 (A2 (A3 J J (A5 (V4 J J) J (A4 ?_)))));refine k1 ?_;refine B1 rfl (fun ht=>?_) (fun ht=>?_)
 rotate_left
 ·cases ht
 refine k2 (E8 (by kernel_rfl) (by kernel_rfl) (E3 J J (E3 J J (B5 (C15 J J (by (first | omega | decide)) (by (first | omega | decide))) J J (E3 J J (E3 J J (E3 J J (B5 (I6 J) J J (B5 (X0 J J (by (first | omega | decide))) J J (B5 (C89 J J (by (first | omega | decide)) (by (first | omega | decide))) J J (B5 (I2 J J) J J (B5 (I2 J J) J J (B5 (I2 J J) J J (P2 ?_))))))))))))));refine k1 (k10 (k11 ?_))
 exact B6 (rs:=[J6 D09,J6 [93],H9 true]) (ret3 rfl rfl rfl rfl rfl rfl rfl) rfl
theorem cutD_ok:FnOk Tryz.prog 197 [J6 H61,J6 [58,93]] (fun rs=>rs=[J6 D09,J6 [93],H9 true]):=by
 refine FnOk.intro Tryz.func197 (by decide) J J J J ?_
 refine k2 (A2 (A6 J J (A6 J J (A6 J J (A4 ?_)))));refine k1 (k2 (A2 (A3 J J (A3 J J (D7 (H62) J J J ?_)))));rintro _ rfl;refine H0 J J J (H0 J J J (H0 J J J (A6 J J (A6 J J (A6 J J (A4 ?_))))));refine k1 (k10 ?_)
 exact B6 (rs:=[J6 D09,J6 [93],H9 true]) (ret3 rfl rfl rfl rfl rfl rfl rfl) rfl
theorem retsC1 {P:Program} {fn:Func} {fr:Fr} {ob:Obs} {t:Tmp} {k n:Nat} {tt:TypeId} {ts:List TC} [hty:TyAgg P tt n] (hr:fn.results=#[.cell t tt]) (ht:n8 fr t=some (.s (.one (.ref k 0)))) (hk:B8 ob k=some (.box ts)) (hn:ts.length=n):RetS P fn fr ob [.agg ts]:=by
 unfold RetS
 intro S G a w h
 obtain ⟨b,hg,hu⟩:=h.slot ht
 obtain ⟨b',vs,tt',hg',hh,ha⟩:=h.box hk
 rw [hg] at hg';cases hg'
 have h2:(loadVar tt ⟨b,0,none⟩).run P w=.ok (.agg (List.toArray vs)) w:=Y1 (ht:=hty) (by rw [←ha.length,hn]) (fun j z hz=>by rw [Nat.zero_add];exact O4 hh (by simpa using hz))
 rw [Array.getD_eq_getD_getElem?] at hu
 exact ⟨_,by simp [results,hr,hu,asAddr,h2],⟨vs,rfl,ha⟩⟩
theorem J85 {gf:Fr} {ob:Obs} (h0:B8 ob 810=some (L2 q8 1 0)) (h3:B8 ob 840=none) :
  AL.Met Tryz.prog 188 [M3,(A13 set0).s1] gf ob [840] (fun rs ob'=>rs=[(A13 digSet).s1]∧ob'=(810,L2 q8 10 0)::Obs.forget 840 ob):=by
 have hcp:=G63 [91,58,100,105,103,105,116,58,93,93] [91,58]
 rw [show cutP [91,58,100,105,103,105,116,58,93,93] [91,58]=[J6 H61,H9 true] by rfl] at hcp
 refine AL.Met.introH Tryz.func188 (by decide) rfl rfl rfl (fun hH=>?_)
 refine D8 (K58 840 (l:=[(0,.s M3),(1,.s (A13 set0).s1)]) (L:=[(810,_)]) ⟨le1 rfl,le1 rfl,trivial⟩ hH (by repeat (first | exact A8 | refine A9 rfl ?_)) ⟨h0,trivial⟩) ?_
 have hf3:B8 (Obs.forget 840 ob) 840=none:=by rw [J1,h3];rfl
 refine k2 (A2 (A5 (o9 J J J) J (D1 (B27 840 hf3 (by decide)) J (A4 ?_))));refine k1 (k2 (k2 ?_));refine D8 (K57 (gf':=Fr.forget 840 gf) (l:=[(0,.s M3),(3,.s (.one (.eref Unit 4 (fun _ j=>[Cell.v (.int .u64 0),Cell.v (.int .u64 0),Cell.v (.int .u64 0),Cell.v (.int .u64 0)].getD j (.v undef)) () 0))),(4,.s (.one (.ref 840 0)))]) (ob':=[(810,L2 q8 1 0),(840,.box [.p (.v (.int .u64 0)),.p (.v (.int .u64 0)),.p (.v (.int .u64 0)),.p (.v (.int .u64 0))])]++Obs.forget 840 ob) ⟨le1 rfl,le1 rfl,le1 rfl,trivial⟩ (z6 hH) (by repeat (first | exact A8 | refine tail_drop rfl ?_ | refine A9 rfl ?_ | refine H2 _ ?_ | refine C2 _ ?_)) (C8 (L:=[(810,_),(840,_)]) ⟨rfl,rfl,trivial⟩ (by repeat (first | exact C0 | refine C4 rfl ?_ | refine D9 hf3 ?_ | refine K5 _ ?_)))) ?_
 refine E8 (by kernel_rfl) (by kernel_rfl) (E3 J J (B5 (B4 J) J J (B5 (A7 J) J J (B5 (C9 J J J) J J (E3 J J (B5 (B4 J) J J (B5 (A7 J) J J (B5 (C9 J J J) J J (B5 (C89 J J (by (first | omega | decide)) (by (first | omega | decide))) J J (B5 (O6 (hcp) J J) J J (E3 J J (B5 (Q0 J J) J J (B5 (Q0 J J) J J (B5 (I2 J J) J J (B5 (I2 J J) J J (P2 ?_))))))))))))))));refine k1 (k2 (A2 (A3 J J (A4 ?_))));refine k1 ?_;refine B1 rfl (fun ht=>?_) (fun ht=>?_)
 rotate_left
 ·cases ht
 refine k2 (A2 (A3 J J (D7 (cutD_ok) J J J ?_)));rintro _ rfl;refine A3 J J (H0 J J J (H0 J J J (H0 J J J (A6 J J (A6 J J (A6 J J (A4 ?_)))))));refine k1 (k2 (k2 (A2 (A3 J J (A5 (Q8 J) J (A4 ?_))))));refine k1 ?_;refine B1 rfl (fun ht=>?_) (fun ht=>?_)
 ·cases ht
 refine k5 (k1 (k2 (A2 (A3 J J (A5 (B4 J) J (A5 (A7 J) J (G7 J J J J (A3 J J (A5 (I6 J) J (A5 (X0 J J (by (first | omega | decide))) J (A5 (X0 J J (by (first | omega | decide))) J (A5 (X0 J J (by (first | omega | decide))) J (A5 (B4 J) J (A5 (A7 J) J (H1 (C1 TySz.out J J J J J J) (A4 ?_))))))))))))))));refine k1 (k2 (A2 (A5 (E2 J J) J (A3 J J (D7 (H60) J J J ?_)))));rintro _ rfl;refine H1 (C1 TySz.out J J J J J J) (A4 ?_);refine k1 (k10 (k11 ?_))
 exact E1 (retsC1 rfl rfl rfl rfl) (by repeat (first | exact A8 | refine tail_drop rfl ?_ | refine A9 rfl ?_ | refine H2 _ ?_ | refine C2 _ ?_)) (C8 (L:=[(810,_)]) ⟨rfl,trivial⟩ (by repeat (first | exact C0 | refine C4 rfl ?_ | refine D9 hf3 ?_ | refine K5 _ ?_))) ⟨rfl,rfl⟩
theorem I76 {gf:Fr} {ob:Obs} (h0:B8 ob 810=some (L2 q8 0 0)) (h1:B8 ob 811=some (K8 [])) (h3:B8 ob 840=none) (h4:B8 ob 841=none) :
  AL.Met Tryz.prog 174 [M3] gf ob [811,840,841] (fun rs ob'=>rs=[M7 0]∧ob'=(810,L2 q8 11 0)::(811,K8 [⟨1,digSet,0,0,[]⟩])::F0 [811,840,841] ob):=by
 refine AL.Met.introH Tryz.func174 (by decide) rfl rfl rfl (fun hH=>?_)
 refine D8 (K58 811 (l:=[(0,.s M3)]) (L:=[(810,_),(811,_)]) ⟨le1 rfl,trivial⟩ hH (by repeat (first | exact A8 | refine A9 rfl ?_)) ⟨h0,h1,trivial⟩) ?_
 refine D8 (Sees.forget 840) ?_
 refine D8 (Sees.forget 841) ?_
 have hf3:B8 (F0 [811,840,841] ob) 840=none:=L6 h3
 have hf4:B8 (F0 [811,840,841] ob) 841=none:=L6 h4
 refine D8 (K57 (gf':=C6 [811,840,841] gf) (l:=[(0,.s M3)]) (ob':=[(810,L2 q8 0 0),(811,K8 [])]++F0 [811,840,841] ob) ⟨le1 rfl,trivial⟩ (D5 hH) (by repeat (first | exact A8 | refine tail_drop rfl ?_ | refine A9 rfl ?_ | refine F4 _ rfl ?_)) (C8 (L:=[(810,_),(811,_)]) ⟨rfl,rfl,trivial⟩ (by repeat (first | exact C0 | refine C4 rfl ?_)))) ?_
 refine k2 (A2 (A6 J J (A4 ?_)));refine k1 (k2 (A2 (A3 J J (A5 (B4 J) J (A5 (A7 J) J (G7 J J J J (A5 (X0 J J (by (first | omega | decide))) J (A5 (B4 J) J (A5 (A7 J) J (H1 (C1 TySz.out J J J J J J) (A4 ?_)))))))))));refine k1 (k2 (A2 (A3 J J (G8 (Y3 q8 1 0 94 (by decide) (by decide) (by decide) J) J J J ?_))));rintro _ _ ⟨rfl,rfl⟩;refine A6 J J (A4 ?_);refine k1 (k2 ?_)
 have hf5:B8 (Obs.forget 840 (F0 [811,840,841] ob)) 841=none:=by rw [J1,hf4];rfl
 refine A2 (A3 J J (A5 (B35 J) J (G8 (J85 J hf3) J J J ?_)));rintro _ _ ⟨rfl,rfl⟩;refine D1 (B27 841 hf5 (by decide)) J (H1 (C1 TySz.out J J J J J J) (A4 ?_));refine k1 (k2 (k3 ?_));refine D8 (K57 (gf':=C6 [811,840,841] gf) (l:=[(0,.s M3),(3,P6 false),(4,.s (.one (.ref 841 0)))]) (ob':=[(810,L2 q8 10 0),(811,K8 []),(841,.box [.p (.v (.int .u64 digSet.a)),.p (.v (.int .u64 0)),.p (.v (.int .u64 0)),.p (.v (.int .u64 0))])]++F0 [811,840,841] ob) ⟨le1 rfl,le1 rfl,le1 rfl,trivial⟩ (D5 hH) (by repeat (first | exact A8 | refine tail_drop rfl ?_ | refine A9 rfl ?_ | refine F4 _ rfl ?_)) (C8 (L:=[(810,_),(811,_),(841,_)]) ⟨rfl,rfl,rfl,trivial⟩ (by repeat (first | exact C0 | refine C4 rfl ?_ | refine D9 hf4 ?_ | refine L0 _ rfl ?_)))) ?_
 refine D2 (X:=Nat) (fun _=>([(0,.s M3),(3,P6 false),(4,.s (.one (.ref 841 0)))]++C6 [811,840,841] gf,[(810,L2 q8 10 0),(811,K8 []),(841,.box [.p (.v (.int .u64 digSet.a)),.p (.v (.int .u64 0)),.p (.v (.int .u64 0)),.p (.v (.int .u64 0))])]++F0 [811,840,841] ob)) (fun _=>True) (fun i=>i) 0 trivial (K57 ⟨le1 rfl,le1 rfl,le1 rfl,trivial⟩ (D5 hH) (by repeat (first | exact A8 | refine A9 rfl ?_)) (C8 (L:=[(810,_),(811,_),(841,_)]) ⟨rfl,rfl,rfl,trivial⟩ (by repeat (first | exact C0 | refine C4 rfl ?_ | refine D9 hf4 ?_)))) ?_
 intro i _
 dsimp only
 refine k2 (k2 (A2 (A3 J J (G8 (H39 q8 10 0 93 J (by decide) J) J J J ?_))));rintro _ _ ⟨rfl,rfl⟩;refine A5 (Q8 J) J (A4 ?_);refine k1 ?_;refine B1 rfl (fun ht=>?_) (fun ht=>?_)
 ·cases ht
 refine k6 (k2 (k2 (A2 (A3 J J (A4 ?_)))));refine k1 ?_;refine B1 rfl (fun ht=>?_) (fun ht=>?_)
 ·cases ht
 refine k5 (k1 (k2 (A2 (A3 J J (A5 (M6 J J J) J (G8 (E80 q8 11 0 [] digSet (by decide) J J) J J J ?_))))));rintro _ _ ⟨rfl,rfl⟩;refine A6 J J (A4 ?_);refine k1 (k10 ?_)
 exact E1 (I1 rfl rfl) (by repeat (first | exact A8 | refine tail_drop rfl ?_ | refine A9 rfl ?_ | refine F4 _ rfl ?_)) (C8 (L:=[(810,_),(811,_)]) ⟨rfl,rfl,trivial⟩ (by repeat (first | exact C0 | refine C4 rfl ?_ | refine D9 hf4 ?_ | refine L0 _ rfl ?_))) ⟨rfl,rfl⟩
theorem J86 {gf:Fr} {ob:Obs} :
  AL.Met Tryz.prog 148 [M3,U2 91] gf ob [] (fun rs ob'=>rs=[.one (.clo 174 [(810,0)] [])]∧ob'=ob):=by
 refine AL.Met.intro Tryz.func148 (by decide) J J J ?_
 refine k2 (A2 (A6 J J (A4 ?_)));refine k1 (k2 (k2 (A2 (A3 J J (A4 ?_)))));refine k1 (k3 (k2 (A2 (A5 (F7 J J) J (A6 J J (A4 ?_))))));refine k1 ?_;refine B1 rfl (fun ht=>?_) (fun ht=>?_)
 ·exact absurd (A0 ht) (by decide)
 refine k2 (A2 (A5 (F7 J J) J (A6 J J (A4 ?_))));refine k1 ?_;refine B1 rfl (fun ht=>?_) (fun ht=>?_)
 rotate_left
 ·exact absurd rfl (A1 ht)
 refine k2 (A2 (A3 J J (A5 (l4 J J) J (A6 J J (A4 ?_)))));refine k1 (k10 (k12 (k11 ?_)))
 exact E1 (I1 rfl rfl) (by repeat (first | exact A8 | refine A9 rfl ?_ | refine C2 _ ?_)) (fun _ _ h=>h) ⟨rfl,rfl⟩
theorem C24 {s:Str} {k:UInt8}:¬s[s.length]?=some k:=fun h=>by rw [K98 (Nat.le_refl _)] at h;cases h
theorem I77 {gf:Fr} {ob:Obs} (s:Str) (d:Nat) (hs:s.length≤1000) (h0:B8 ob 810=some (L2 s s.length d)) :
  AL.Met Tryz.prog 149 [M3] gf ob [] (fun rs ob'=>rs=[M7 0,M7 0,A67 false]∧ob'=(810,L2 s s.length d)::ob):=by
 refine AL.Met.introH Tryz.func149 (by decide) rfl rfl rfl (fun hH=>?_)
 refine D8 (K57 (l:=[(0,.s M3)]) (ob':=(810,L2 s s.length d)::ob) ⟨le1 rfl,trivial⟩ hH (by repeat (first | exact A8 | refine A9 rfl ?_)) (C8 (L:=[(810,_)]) ⟨h0,trivial⟩ C0)) ?_
 refine k2 (A2 (A6 J J (A6 J J (A6 J J (A4 ?_)))));refine k1 (k2 (k3 (k2 (A2 (A3 J J (G8 (Y3 s s.length d 42 C24 (Nat.le_refl _) hs J) J J J ?_))))));rintro _ _ ⟨rfl,rfl⟩;refine A6 J J (A4 ?_);refine k1 ?_;refine B1 rfl (fun ht=>?_) (fun ht=>?_)
 ·cases ht
 refine k2 (A2 (A3 J J (G8 (Y3 s s.length d 43 C24 (Nat.le_refl _) hs J) J J J ?_)));rintro _ _ ⟨rfl,rfl⟩;refine A6 J J (A4 ?_);refine k1 ?_;refine B1 rfl (fun ht=>?_) (fun ht=>?_)
 ·cases ht
 refine k2 (A2 (A3 J J (G8 (Y3 s s.length d 63 C24 (Nat.le_refl _) hs J) J J J ?_)));rintro _ _ ⟨rfl,rfl⟩;refine A6 J J (A4 ?_);refine k1 ?_;refine B1 rfl (fun ht=>?_) (fun ht=>?_)
 ·cases ht
 refine k2 (A2 (A3 J J (G8 (Y3 s s.length d 123 C24 (Nat.le_refl _) hs J) J J J ?_)));rintro _ _ ⟨rfl,rfl⟩;refine A6 J J (A4 ?_);refine k1 ?_;refine B1 rfl (fun ht=>?_) (fun ht=>?_)
 ·cases ht
 refine k5 (k2 (A2 (A6 J J (A6 J J (A6 J J (A4 ?_))))));refine k1 (k10 ?_)
 exact E1 (rets3 rfl rfl rfl rfl) (by repeat (first | exact A8 | refine A9 rfl ?_ | refine C2 _ ?_)) (C8 (L:=[(810,_)]) ⟨rfl,trivial⟩ (by repeat (first | exact C0 | refine C4 rfl ?_))) ⟨rfl,rfl⟩
abbrev ndD:AL.Node:=⟨1,digSet,0,0,[]⟩
theorem I78 {gf:Fr} {ob:Obs} (h0:B8 ob 810=some (L2 q8 0 0)) (h1:B8 ob 811=some (K8 [])) (h3:B8 ob 840=none) (h4:B8 ob 841=none) :
  AL.Met Tryz.prog 125 [M3,U2 91] gf ob [811,840,841] (fun rs ob'=>rs=[M7 0]∧ob'=(810,L2 q8 11 0)::(811,K8 [ndD])::F0 [811,840,841] ob):=by
 refine AL.Met.introH Tryz.func125 (by decide) rfl rfl rfl (fun hH=>?_)
 refine D8 (K58 811 (l:=[(0,.s M3),(1,.s (U2 91))]) (L:=[(810,_),(811,_)]) ⟨le1 rfl,le1 rfl,trivial⟩ hH (by repeat (first | exact A8 | refine A9 rfl ?_)) ⟨h0,h1,trivial⟩) ?_
 refine D8 (Sees.forget 840) ?_
 refine D8 (Sees.forget 841) ?_
 have hf3:B8 (F0 [811,840,841] ob) 840=none:=L6 h3
 have hf4:B8 (F0 [811,840,841] ob) 841=none:=L6 h4
 refine D8 (K57 (gf':=C6 [811,840,841] gf) (l:=[(0,.s M3),(1,.s (U2 91))]) (ob':=[(810,L2 q8 0 0),(811,K8 [])]++F0 [811,840,841] ob) ⟨le1 rfl,le1 rfl,trivial⟩ (D5 hH) (by repeat (first | exact A8 | refine tail_drop rfl ?_ | refine A9 rfl ?_ | refine F4 _ rfl ?_)) (C8 (L:=[(810,_),(811,_)]) ⟨rfl,rfl,trivial⟩ (by repeat (first | exact C0 | refine C4 rfl ?_)))) ?_
 refine k2 (A2 (A6 J J (A4 ?_)));refine k1 (k2 (k2 (A2 (A3 J J (A4 ?_)))));refine k1 (k3 (k2 (A2 (A5 (F7 J J) J (A6 J J (A4 ?_))))));refine k1 ?_;refine B1 rfl (fun ht=>?_) (fun ht=>?_)
 ·exact absurd (A0 ht) (by decide)
 refine k2 (A2 (A5 (F7 J J) J (A6 J J (A4 ?_))));refine k1 ?_;refine B1 rfl (fun ht=>?_) (fun ht=>?_)
 ·exact absurd (A0 ht) (by decide)
 refine k5 (k2 (A2 (A3 J J (A3 J J (G8 (J86) J J J ?_)))));rintro _ _ ⟨rfl,rfl⟩;refine A6 J J (A4 ?_);refine k1 (k2 (A2 (A3 J J (A85 (I76 J J (by exact hf3) (by exact hf4)) J J J J ?_))));rintro _ _ ⟨rfl,rfl⟩;refine A6 J J (A4 ?_);refine k1 (k2 (A2 (A3 J J (G8 (I77 q8 0 (by decide) J) J J J ?_))));rintro _ _ ⟨rfl,rfl⟩;refine A3 J J (H0 J J J (H0 J J J (H0 J J J (A6 J J (A6 J J (A6 J J (A4 ?_)))))));refine k1 (k2 (k2 (A2 (A3 J J (A5 (Q8 J) J (A4 ?_))))));refine k1 ?_;refine B1 rfl (fun ht=>?_) (fun ht=>?_)
 rotate_left
 ·cases ht
 refine k2 (A2 (A3 J J (A6 J J (A4 ?_))));refine k1 (k10 (k11 ?_))
 exact E1 (I1 rfl rfl) (by repeat (first | exact A8 | refine tail_drop rfl ?_ | refine A9 rfl ?_ | refine F4 _ rfl ?_)) (C8 (L:=[(810,_),(811,_)]) ⟨rfl,rfl,trivial⟩ (by repeat (first | exact C0 | refine C4 rfl ?_ | refine L0 _ rfl ?_))) ⟨rfl,rfl⟩
def atD:Nat→Nat
 | 0=>0
 | _=>11
def ndsD:Nat→List AL.Node
 | 0=>[]
 | _=>[ndD]
def kdsD:Nat→List Int
 | 0=>[]
 | _=>[0]
theorem K45 {gf:Fr} {ob:Obs} (hf:B8 ob 812=none) (h0:B8 ob 810=some (L2 q8 0 0)) (h1:B8 ob 811=some (K8 [])) (h3:B8 ob 840=none) (h4:B8 ob 841=none) :
  AL.Met Tryz.prog 86 [M3] gf ob [811,812,840,841] (fun rs ob'=>rs=[M7 0]∧ob'=(810,L2 q8 11 0)::(811,K8 [ndD])::F0 [811,812,840,841] ob):=by
 refine AL.Met.introH Tryz.func86 (by decide) rfl rfl rfl (fun hH=>?_)
 refine D8 (K58 811 (l:=[(0,.s M3)]) (L:=[(810,_),(811,_)]) ⟨le1 rfl,trivial⟩ hH (by repeat (first | exact A8 | refine A9 rfl ?_)) ⟨h0,h1,trivial⟩) ?_
 refine D8 (Sees.forget 812) ?_
 refine D8 (Sees.forget 840) ?_
 refine D8 (Sees.forget 841) ?_
 have hf2:B8 (F0 [811,812,840,841] ob) 812=none:=L6 hf
 have hf3:B8 (F0 [811,812,840,841] ob) 840=none:=L6 h3
 have hf4:B8 (F0 [811,812,840,841] ob) 841=none:=L6 h4
 refine D8 (K57 (gf':=C6 [811,812,840,841] gf) (l:=[(0,.s M3)]) (ob':=[(810,L2 q8 0 0),(811,K8 [])]++F0 [811,812,840,841] ob) ⟨le1 rfl,trivial⟩ (D5 hH) (by repeat (first | exact A8 | refine tail_drop rfl ?_ | refine A9 rfl ?_ | refine F4 _ rfl ?_)) (C8 (L:=[(810,_),(811,_)]) ⟨rfl,rfl,trivial⟩ (by repeat (first | exact C0 | refine C4 rfl ?_)))) ?_
 refine k2 (A2 (A6 J J (A4 ?_)));refine k1 (k2 (A2 (A6 J J (A4 ?_))));refine D8 (K70 812 Int 1 E4 3 (t:=3) J hf2 J) ?_
 refine k3 ?_;refine D2 (X:=Nat) (fun i=>([(0,.s M3),(3,.s (.one (.buf 812 Int 1 E4 (kdsD i))))]++C6 [811,812,840,841] gf,[(810,L2 q8 (atD i) 0),(811,K8 (ndsD i)),(812,.spare (kdsD i).length 1 3)]++F0 [811,812,840,841] ob)) (fun i=>i≤1) (fun i=>1 - i) 0 (Nat.zero_le _) ?_ ?_
 ·exact K57 ⟨le1 rfl,le1 rfl,trivial⟩ (D5 hH) (by repeat (first | exact A8 | refine tail_drop rfl ?_ | refine A9 rfl ?_ | refine F4 _ rfl ?_)) (C8 (L:=[(810,_),(811,_),(812,_)]) ⟨rfl,rfl,rfl,trivial⟩ (by repeat (first | exact C0 | refine C4 rfl ?_ | refine D9 hf2 ?_ | refine L0 _ rfl ?_)))
 intro i hi
 dsimp only at hi ⊢
 rcases (show i=0∨i=1 by omega) with h | h<;>subst h
 ·refine k3 (k2 (A2 (A3 J J (G8 (p7 q8 0 0 (by decide) (by decide) J) J J J ?_))));rintro _ _ ⟨rfl,rfl⟩;refine A3 J J (H0 J J J (H0 J J J (A6 J J (A6 J J (A4 ?_)))));refine k1 (k2 (k2 (A2 (A3 J J (A5 (Q8 J) J (A3 J J (B3 J J J J (fun hg=>by rw [hg];exact B9 J J) ?_)))))));refine B3 J J J J (fun hg=>by rw [hg];exact F7 J J) ?_;refine K4 J J ?_;refine A3 J J (B3 J J J J (fun hg=>by rw [hg];exact B9 J J) ?_);refine B3 J J J J (fun hg=>by rw [hg];exact F7 J J) ?_;refine K4 J J ?_;refine A4 ?_;refine k1 ?_;refine B1 rfl (fun ht=>?_) (fun ht=>?_)
  ·cases ht
  refine k5 (k1 ?_)
  have hf5:B8 (Obs.forget 811 (F0 [811,812,840,841] ob)) 840=none:=by rw [J1,hf3];rfl
  refine A2 (A3 J J (A3 J J (A3 J J (G8 (I78 J J (by exact hf3) (by exact hf4)) J J J ?_))));rintro _ _ ⟨rfl,rfl⟩;refine A5 (C5 (c:=E4) (ys:=[(0:Int)]) (E0 J J J J G5) J J J) J (D1 (J7 J J J (.pure _ _ _ _) (by decide) J) J (A6 J J (A4 ?_)));refine k4 (k1 ?_)
  exact ⟨1,by decide,by decide,K57 ⟨le1 rfl,le1 rfl,trivial⟩ (D5 hH) (by repeat (first | exact A8 | refine tail_drop rfl ?_ | refine A9 rfl ?_ | refine F4 _ rfl ?_)) (C8 (L:=[(810,_),(811,_),(812,_)]) ⟨rfl,rfl,rfl,trivial⟩ (by repeat (first | exact C0 | refine C4 rfl ?_ | refine D9 hf2 ?_ | refine L0 _ rfl ?_)))⟩
 ·refine k3 (k2 (A2 (A3 J J (G8 (p7 q8 11 0 (by decide) (by decide) J) J J J ?_))));rintro _ _ ⟨rfl,rfl⟩;refine A3 J J (H0 J J J (H0 J J J (A6 J J (A6 J J (A4 ?_)))));refine k1 (k2 (k2 (A2 (A3 J J (A5 (Q8 J) J (A3 J J (B3 J J J J (fun hg=>by rw [hg];exact B9 J J) ?_)))))));refine B3 J J J J (fun hg=>by rw [hg];exact F7 J J) ?_;refine K4 J J ?_;refine A3 J J (B3 J J J J (fun hg=>by rw [hg];exact B9 J J) ?_);refine B3 J J J J (fun hg=>by rw [hg];exact F7 J J) ?_;refine K4 J J ?_;refine A4 ?_;refine k1 ?_;refine B1 rfl (fun ht=>?_) (fun ht=>?_)
  rotate_left
  ·cases ht
  refine k2 (D8 (Sees.forget 812) ?_)
  refine A2 (A3 J J (A3 J J (G8 (A43 4 0) J J J ?_)));rintro _ _ ⟨rfl,rfl⟩;refine A6 J J (A4 ?_);refine k1 (k10 (k11 (k12 (k11 (k12 ?_)))))
  exact E1 (I1 rfl rfl) (by repeat (first | exact A8 | refine tail_drop rfl ?_ | refine A9 rfl ?_ | refine F4 _ rfl ?_)) (C8 (L:=[(810,_),(811,_)]) ⟨rfl,rfl,trivial⟩ (by repeat (first | exact C0 | refine C4 rfl ?_ | refine D9 hf2 ?_ | refine L0 _ rfl ?_))) ⟨rfl,rfl⟩
theorem K46 {gf:Fr} {ob:Obs} (hf:B8 ob 812=none) (h0:B8 ob 810=some (L2 q8 0 0)) (h1:B8 ob 811=some (K8 [])) (h3:B8 ob 840=none) (h4:B8 ob 841=none) :
  AL.Met Tryz.prog 57 [M3] gf ob [811,812,840,841] (fun rs ob'=>rs=[M7 0]∧ob'=(810,L2 q8 11 0)::(811,K8 [ndD])::F0 [811,812,840,841] ob):=by
 refine AL.Met.introH Tryz.func57 (by decide) rfl rfl rfl (fun hH=>?_)
 refine k2 (A2 (A6 J J (A4 ?_)));refine k1 (k2 (A2 (A3 J J (G8 (K45 hf h0 h1 h3 h4) J J J ?_))));rintro _ _ ⟨rfl,rfl⟩;refine A5 (C5 (c:=E4) (ys:=[(0:Int)]) (E0 J J J J G5) J J J) J (A6 J J (A4 ?_));refine k1 (k2 (k3 ?_));refine D2 (X:=Nat) (fun _=>([(0,.s M3),(3,D3 Int 1 E4 [0])]++C6 [811,812,840,841] gf,[(810,L2 q8 11 0),(811,K8 [ndD])]++F0 [811,812,840,841] ob)) (fun _=>True) (fun i=>i) 0 trivial ?_ ?_
 ·exact K57 ⟨le1 rfl,le1 rfl,trivial⟩ (D5 hH) (by repeat (first | exact A8 | refine tail_drop rfl ?_ | refine A9 rfl ?_ | refine F4 _ rfl ?_ | refine C2 _ ?_)) (C8 (L:=[(810,_),(811,_)]) ⟨rfl,rfl,trivial⟩ (by repeat (first | exact C0 | refine C4 rfl ?_)))
 intro i _
 dsimp only
 refine k2 (k2 (A2 (A3 J J (G8 (Y3 q8 11 0 124 (by decide) (by decide) (by decide) J) J J J ?_))));rintro _ _ ⟨rfl,rfl⟩;refine A4 ?_;refine k1 ?_;refine B1 rfl (fun ht=>?_) (fun ht=>?_)
 ·cases ht
 refine k6 (k2 (A2 (A3 J J (A3 J J (G8 (A43 5 0) J J J ?_)))));rintro _ _ ⟨rfl,rfl⟩;refine A6 J J (A4 ?_);refine k1 (k10 ?_)
 exact E1 (I1 rfl rfl) (by repeat (first | exact A8 | refine tail_drop rfl ?_ | refine A9 rfl ?_ | refine F4 _ rfl ?_)) (C8 (L:=[(810,_),(811,_)]) ⟨rfl,rfl,trivial⟩ (by repeat (first | exact C0 | refine C4 rfl ?_ | refine L0 _ rfl ?_))) ⟨rfl,rfl⟩
theorem J87:FnOk Tryz.prog 37 [J6 q8] (fun rs=>rs=[s8 [ndD],F2 0]):=by
 refine FnOk.intro Tryz.func37 (by decide) J J J J ?_
 refine k2 (A2 (D1 (I4 2 J) J (D1 (I4 3 J) J (A4 ?_))));refine k1 (k2 (k2 (A2 (A3 J J (A5 (I6 J) J (A5 (N4 J J) J (A4 ?_)))))));refine k1 ?_;refine B1 rfl (fun ht=>?_) (fun ht=>?_)
 ·exact absurd (A0 ht) (by decide)
 refine k5 (k1 ?_)
 refine G36 (caps:=[.tmp 2,.tmp 3]) (nc:=[(2,0),(3,0)]) J J B92 ?_
 refine k2 (A2 (A3 J J (A5 (J4 J) J (D1 (i6 810 J J J) J (A6 J J (A4 ?_))))));refine D8 (K61 811 AL.Node 8 s7 152 (kb:=810) (o:=3) J J J) ?_
 refine k2 (A2 (A3 J J (G8 (K46 J J J J J) J J J ?_)));rintro _ _ ⟨rfl,rfl⟩;refine A4 ?_;refine k1 (k2 (k2 (A2 (A3 J J (A5 (B4 J) J (A5 (A7 J) J (G7 J J J J (A3 J J (A5 (I6 J) J (F3 J J J (A4 ?_)))))))))));refine k1 ?_;refine B1 rfl (fun ht=>?_) (fun ht=>?_)
 ·exact absurd (A0 ht) (by decide)
 refine k5 (k1 (k2 (A2 (A3 J J (A5 (B4 J) J (A5 (A7 J) J (G7 J J J J (H1 (C1 TySz.out J J J J J J) (H1 (C1 TySz.out J J J J J J) (A4 ?_))))))))));refine k1 (D8 (Sees.freezeG (k:=811) (α:=AL.Node) (ec:=8) (c:=s7) (xs:=[ndD]) (e:=152) rfl rfl) ?_)
 refine k10 ?_
 exact B6 (rs:=[s8 [ndD],F2 0]) (retcc rfl rfl rfl rfl rfl rfl rfl) rfl
set_option maxHeartbeats 2000000
theorem F01 {f:Int→Bool} {O:List Int} {k:Nat} {c:Int} (h:O[k]?=some c):(O.take (k+1)).filter f=(O.take k).filter f++(if f c=true then [c] else []):=by
 rw [E94 h,L32]
 congr 1
 cases hf:f c<;>simp [hf]
theorem J88 {f:Int→Bool} {O:List Int} {k:Nat} {c:Int} (h:O[k]?=some c) (hf:f c=true):(O.filter f)[((O.take k).filter f).length]?=some c:=by
 have e:O.filter f=(O.take k).filter f++(O.drop k).filter f:=by rw [←L32,L21]
 obtain ⟨hlt,hc⟩:=List.getElem?_eq_some_iff.1 h
 rw [e,K95 (Nat.le_refl _),L31,K91 hlt,hc,L26,if_pos hf]
 rfl
theorem J22 {α:Type} {f:α→Bool} {l:List α} {i:Nat} {x:α} (h:l[i]?=some x):(l.take (i+1)).any f=((l.take i).any f||f x):=by
 rw [E94 h,L29,List.any_cons,List.any_nil,Bool.or_false]
theorem H63 {g:Graph} (h:GV g) {l:List File} (hl:(∃c,l=L1 g c)∨l=[]):l.length≤4:=by
 rcases hl with ⟨c,rfl⟩ | rfl
 ·unfold L1
  by_cases hc:c < g.length
  ·rw [K82 hc]
   have:=(h.files _ (K85 hc)).1.sub.length_le
   simpa using this
  ·rw [K98 (by omega)];simp
 ·simp
theorem treesOr {g:Graph} {c:Nat} {t:List File} (h:t∈L9 g c):(∃d,t=L1 g d)∨t=[]:=by
 unfold L9 at h
 split at h
 ·exact .inr (List.mem_singleton.1 h)
 ·obtain ⟨p,_,rfl⟩:=List.mem_map.1 h
  exact .inl ⟨_,rfl⟩
abbrev F96:AL.Auto:=⟨[⟨4,set0,0,0⟩],0⟩
abbrev D10 (x:Str × Str):Bool:=decide (x.1≠x.2)
theorem H64:FnOk Tryz.prog 24 [J6 []] (fun rs=>rs=[A52 F96,F2 0]) :=
 H58 [] F96 (fun _ h=>by cases h) (by decide) (by kernel_rfl) (by kernel_rfl) (by kernel_rfl) (by kernel_rfl) (by decide)
theorem H65:FnOk Tryz.prog 24 [J6 q8] (fun rs=>rs=[A52 (A18 digSet),F2 0]) :=
 B96 q8 [ndD] (A18 digSet) J87 (C73 [ndD] (A18 digSet).States 1 20 (by kernel_rfl) (by decide) (by rw [show topW [ndD]=1 by kernel_rfl];decide) (by kernel_rfl) (by decide))
theorem D96 {s:Str} (h:M2 s=0):(F1 s).length≤4096:=by
 unfold M2 at h
 split at h
 ·cases h
 ·omega
theorem rexN {g:Graph} (hv:Valid g) (s:Int):L5 (F55 F96) g s=L5 D10 g s :=
 F64 (fun c x hx=>by
  obtain ⟨h1,h2⟩:=D95 hv hx
  exact K10 (h:=A27 F96) (fun t=>K08 (I00 (by rfl)) rfl t) (D96 h1) (D96 h2)) s
theorem H66:((List.range 256).all fun x=>!decide (x5 digSet x=1)||decide (48≤x∧x≤57))=true:=by kernel_rfl
theorem rexD {g:Graph} (hv:GV g) (s:Int):(L5 (F55 (A18 digSet)) g s).1=[] :=
 I04 (fun c x hx=>by
  obtain ⟨h1,h2⟩:=K11 hv hx
  show decide (0 < (y6 (A27 (A18 digSet)) x.1 x.2).length)=false
  rw [K54 (h:=A27 (A18 digSet)) (fun t ht=>I02 H66 (I03 h1 ht)) (fun t ht=>I02 H66 (I03 h2 ht))]
  rfl) s
theorem F58 (raw:List Int) (start:Int):FnOk Tryz.prog 3 [K2 raw,F2 start] (fun rs=>rs=[H9 true]):=by
 refine FnOk.intro Tryz.func3 (by decide) J J J J ?_
 refine k2 (A2 (A6 J J (A4 ?_)));refine k1 (k2 (A2 (A3 J J (D7 (J83 raw 6 3 (by omega) (by omega)) J J J ?_))));rintro _ ⟨g,rfl,hg,hv⟩;refine A6 J J (A4 ?_)
 have hF:=hg.few (by decide)
 have hS:=hg.short
 have hgl:=hv.len
 refine k1 (k2 (k2 (A2 (A3 J J (E5 J J (A5 (F7 J J) J (A4 ?_)))))));refine k1 ?_;refine B1 rfl (fun ht=>?_) (fun ht=>?_)
 ·refine k2 (A2 (D7 (F95) J J J ?_));rintro _ rfl;refine A6 J J (A4 ?_);refine k1 (k10 (k11 ?_))
  exact B6 (rs:=[H9 true]) (H3 rfl rfl rfl) rfl
 have hpos:0 < g.length:=by have:=A1 ht;(try dsimp only at this);omega
 have hst:=j2 start (n:=g.length) (by omega)
 refine k5 (k1 (k2 (A2 (A3 J J (A3 J J (E5 J J (D7 (C68 start g.length (by omega) (by omega)) J J J ?_)))))));rintro _ rfl;refine A6 J J (A4 ?_)
 obtain ⟨st,hst'⟩:∃st,st=Z9 start g.length:=⟨_,rfl⟩
 rw [←hst'] at hst ⊢
 have hC:U6 g st:=hst
 have hV:=b9 hv.check
 obtain ⟨f,hf⟩:∃f:Int→Bool,f=fun c=>D36 D10 g c.toNat:=⟨_,rfl⟩
 obtain ⟨O,hO⟩:∃O,O=y5 g [st]:=⟨_,rfl⟩
 have hE:Q4 g st=(O,0):=by unfold Q4;rw [hv.check,if_neg (fun e=>e rfl),if_pos hC,hO]
 have h1:=C74 g st [] F96 (I00 (by rfl)) hF hS H64
 have h1b:=C74 g st q8 (A18 digSet) (I00 (by rfl)) hF hS H65
 have h2:=J62 g st hF.few (rdag_ok g hF)
 have hNL:L5 (F55 F96) g st=(O.filter f,0):=by
  rw [rexN hV,G88 (fun x=>by simp [D10]) hv hC,←hO,hf]
 have hDL:L5 (F55 (A18 digSet)) g st=([],0):=by
  refine Prod.ext (rexD hv st) ?_
  unfold L5
  rw [hE,if_neg (fun e=>e rfl)]
 rw [hNL] at h1
 rw [hDL] at h1b
 rw [hE] at h2
 have hOr:=C11 g [st]
 rw [←hO] at hOr
 have hOl:O.length≤g.length:=b8 hOr.1 hOr.2
 obtain ⟨L,hLe⟩:∃L,L=O.filter f:=⟨_,rfl⟩
 have hLl:L.length≤16:=by rw [hLe];have:=List.length_filter_le f O;omega
 rw [←hLe] at h1
 refine k1 (k2 (A2 (A3 J J (A3 J J (D7 (h1) J J J ?_)))));rintro _ rfl;refine A3 J J (H0 J J J (H0 J J J (A6 J J (A6 J J (A4 ?_)))));refine k1 (k2 (A2 (A3 J J (A3 J J (D7 (h1b) J J J ?_)))));rintro _ rfl;refine A3 J J (H0 J J J (H0 J J J (A6 J J (A6 J J (A4 ?_)))));refine k1 (k2 (A2 (A3 J J (A3 J J (A5 (C5 (c:=E4) (ys:=[st]) (E0 J J J J G5) J J J) J (D7 (h2) J J J ?_))))));rintro _ rfl;refine A3 J J (H0 J J J (H0 J J J (A6 J J (A6 J J (A4 ?_)))));refine k1 (k2 (k2 (A2 (A3 J J (A5 (R2 J J) J (A3 J J (H4 J J J J (A3 J J (H4 J J J J (A5 (R2 J J) J (A5 (S6 J (rfl) J) J (A3 J J (H4 J J J J (A3 J J (H4 J J J J (E5 J J (H4 J J J J (A5 (R2 J J) J (A5 (S6 J (rfl) J) J (A4 ?_))))))))))))))))))));refine k1 ?_;refine B1 rfl (fun ht=>?_) (fun ht=>?_)
 ·cases ht
 refine k5 (k1 (k2 (A2 (A6 J J (A4 ?_)))));refine k1 (k2 (A2 (A5 (C5 (c:=R5) (ys:=names4) (E0 J J J J (E0 J J J J (E0 J J J J (E0 J J J J G5)))) J J J) J (A6 J J (A4 ?_)))));refine k1 (k2 (k2 (A2 (A6 J J (A4 ?_)))));refine k1 (k3 (D2 (X:=Nat) (fun k=>([(5,D3 Commit 3 G6 g),(6,D3 Int 1 E4 L),(10,D3 Int 1 E4 O),(12,C3 ((O.take k).filter f).length),(13,D3 Str 1 R5 names4),(14,C3 k)],[])) (fun k=>k≤O.length) (fun k=>O.length - k) 0 (Nat.zero_le _) (Sees.of ⟨le1 rfl,le1 rfl,le1 rfl,le1 rfl,le1 rfl,le1 rfl,trivial⟩ trivial) ?_))
 intro k hk
 dsimp only at hk ⊢
 refine k2 (k2 (A2 (A3 J J (A3 J J (E5 J J (F3 J J J (A4 ?_)))))));refine k1 ?_;refine B1 rfl (fun ht=>?_) (fun ht=>?_)
 rotate_left
 ·have hke:k=O.length:=by have:=A1 ht;omega
  rw [hke,K89,←hLe]
  refine k6 (k2 (A2 (A3 J J (A3 J J (E5 J J (A5 (F7 J J) J (A3 J J (H4 J J J (decide_eq_true J) (D7 (F95) J J J ?_)))))))));rintro _ rfl;refine A5 (R3 J ((decide_eq_true J)) J) J (A6 J J (A4 ?_));refine k1 (k10 ?_)
  exact B6 (rs:=[H9 true]) (H3 rfl rfl rfl) rfl
 have hlt:k < O.length:=by have:=A0 ht;omega
 obtain ⟨c,hvk⟩:∃c:Nat,O[k]?=some (c:Int):=by
  refine ⟨O[k].toNat,?_⟩
  have:=hOr.2 O[k] (K85 hlt)
  rw [K82 hlt,Int.toNat_of_nonneg this.1]
 have hcl:c < g.length:=by have:=hOr.2 _ (K93 hvk);omega
 obtain ⟨cm,hcm⟩:∃cm,cm=g[c]:=⟨_,rfl⟩
 have hvc:g[c]?=some cm:=by rw [hcm];simp [hcl]
 have hU:L1 g c=cm.Files:=by unfold L1;rw [hvc];rfl
 obtain ⟨T,hT⟩:∃T,T=L9 g c:=⟨_,rfl⟩
 have htr:=J63 g c hF.few hV.rel hcl
 have hTl:T.length≤4:=by
  rw [hT];unfold L9
  split
  ·simp
  ·rw [L04,S8 hcl];have:=(hv.pars g[c] (K85 hcl)).1;omega
 rw [←hT] at htr
 have hfc:f (c:Int)=T.any fun t=>A83 D10 t cm.Files:=by rw [hf,hT,←hU];rfl
 obtain ⟨n,hn⟩:∃n,n=((O.take k).filter f).length:=⟨_,rfl⟩
 have hUf:(∃d,cm.Files=L1 g d)∨cm.Files=[]:=.inl ⟨c,hU.symm⟩
 have hUl:=H63 hv hUf
 rw [←hn]
 refine k5 (k1 (k2 (k3 (k2 (A2 (A6 J J (A4 ?_)))))));refine k1 (k2 (A2 (A3 J J (A3 J J (A3 J J (A5 (B2 J (.pure _ _ _ _) J (by omega) hvk) J (A5 (B0 J J) J (D7 (htr) J J J ?_))))))));rintro _ rfl;refine A6 J J (A4 ?_);refine k1 (k2 (k2 (A2 (A6 J J (A4 ?_)))));refine k1 (k3 (D2 (X:=Nat) (fun p=>([(5,D3 Commit 3 G6 g),(6,D3 Int 1 E4 L),(10,D3 Int 1 E4 O),(12,C3 n),(13,D3 Str 1 R5 names4),(14,C3 k),(15,P6 ((T.take p).any fun t=>A83 D10 t cm.Files)),(16,D3 (List File) 1 q9 T),(17,C3 p)],[])) (fun p=>p≤T.length) (fun p=>T.length - p) 0 (Nat.zero_le _) (Sees.of ⟨le1 rfl,le1 rfl,le1 rfl,le1 rfl,le1 rfl,le1 rfl,le1 rfl,le1 rfl,le1 rfl,trivial⟩ trivial) ?_))
 intro p hp
 dsimp only at hp ⊢
 refine k2 (k2 (A2 (A3 J J (A3 J J (E5 J J (F3 J J J (A4 ?_)))))));refine k1 ?_;refine B1 rfl (fun ht=>?_) (fun ht=>?_)
 rotate_left
 ·have hpe:p=T.length:=by have:=A1 ht;omega
  rw [hpe,K89,←hfc]
  refine k6 (k2 (A2 (A3 J J (A4 ?_))));refine k1 ?_;refine B1 rfl (fun ht=>?_) (fun ht=>?_)
  ·have hg0:=J88 hvk ht
   rw [←hLe,←hn] at hg0
   have hnl:n < L.length:=(List.getElem?_eq_some_iff.1 hg0).1
   refine k2 (k2 (E8 (by kernel_rfl) (by kernel_rfl) (E3 J J (E3 J J (B5 (Z2 J (.pure _ _ _ _)) J J (B5 (V4 J J) J J (E3 J J (E26 J J (decide_eq_false (by omega)) J (E3 J J (E26 J J (decide_eq_false (by omega)) J (E3 J J (E26 J J (decide_eq_false (by omega)) J (B5 (B2 J (.pure _ _ _ _) J (by omega) hg0) J J (E26 J J (decide_eq_false (by omega)) J (B5 (B0 J J) J J (E26 J J (decide_eq_false (by omega)) J (E3 J J (E26 J J (decide_eq_false (by omega)) J (E3 J J (E26 J J (decide_eq_false (by omega)) J (B5 (B2 J (.pure _ _ _ _) J (by omega) hvk) J J (E26 J J (decide_eq_false (by omega)) J (B5 (B0 J J) J J ?_)))))))))))))))))))))));refine E26 J J (decide_eq_false (by omega)) J (B5 (R2 J J) J J (B5 (S6 J ((decide_eq_false (by omega))) J) J J (P2 ?_)));refine k1 ?_;refine B1 rfl (fun ht=>?_) (fun ht=>?_)
   ·exfalso;simp at ht
   refine k5 (k1 (A2 (A3 J J (D6 J J J (A6 J J (A4 ?_))))));refine k4 (k1 (A2 (A3 J J (D6 J J J (A6 J J (A4 ?_))))));refine k1 ?_;refine ⟨k+1,by omega,by omega,?_⟩
   have e:(((O.take (k+1)).filter f).length:Int)=(n:Int)+1:=by
    rw [F01 hvk,if_pos (by assumption),K86,←hn,List.length_singleton];omega
   (try dsimp only)
   rw [e]
   exact Sees.of ⟨le1 rfl,le1 rfl,le1 rfl,le1 rfl,le1 rfl,le1 rfl,trivial⟩ trivial
  ·refine k5 (k4 (k1 (A2 (A3 J J (D6 J J J (A6 J J (A4 ?_)))))));refine k1 ?_;refine ⟨k+1,by omega,by omega,?_⟩
   have e:((O.take (k+1)).filter f).length=n:=by
    rw [F01 hvk,if_neg (by rw [ht];decide),L10,←hn]
   (try dsimp only)
   rw [e]
   exact Sees.of ⟨le1 rfl,le1 rfl,le1 rfl,le1 rfl,le1 rfl,le1 rfl,trivial⟩ trivial
 have hplt:p < T.length:=by have:=A0 ht;omega
 obtain ⟨t,htd⟩:∃t,t=T[p]:=⟨_,rfl⟩
 have hvt:T[p]?=some t:=by rw [htd];simp [hplt]
 have htf:(∃d,t=L1 g d)∨t=[]:=treesOr (g:=g) (c:=c) (by rw [←hT];exact K93 hvt)
 have htl:=H63 hv htf
 have hpt:=J22 (f:=fun t=>A83 D10 t cm.Files) hvt
 obtain ⟨b0,hb0⟩:∃b0,b0=(T.take p).any fun t=>A83 D10 t cm.Files:=⟨_,rfl⟩
 rw [←hb0] at hpt ⊢
 refine k5 (k1 (k2 (k3 (k2 (A2 (A6 J J (A4 ?_)))))));refine k1 (k3 ?_);refine D2 (X:=Nat) (fun i=>([(5,D3 Commit 3 G6 g),(6,D3 Int 1 E4 L),(10,D3 Int 1 E4 O),(12,C3 n),(13,D3 Str 1 R5 names4),(14,C3 k),(15,P6 (b0||(names4.take i).any fun q=>D10 (N3 t q,N3 cm.Files q))),(16,D3 (List File) 1 q9 T),(17,C3 p),(18,C3 i)],[])) (fun i=>i≤4) (fun i=>4 - i) 0 (Nat.zero_le _) ?_ ?_
 ·dsimp only
  rw [List.take_zero,List.any_nil,Bool.or_false]
  exact Sees.of ⟨le1 rfl,le1 rfl,le1 rfl,le1 rfl,le1 rfl,le1 rfl,le1 rfl,le1 rfl,le1 rfl,le1 rfl,trivial⟩ trivial
 intro i hi
 dsimp only at hi ⊢
 refine k2 (k2 (A2 (A3 J J (F3 J J J (A4 ?_)))));refine k1 ?_;refine B1 rfl (fun ht=>?_) (fun ht=>?_)
 rotate_left
 ·have hie:i=4:=by have:=A1 ht;omega
  subst hie
  have e:(b0||(names4.take 4).any fun q=>D10 (N3 t q,N3 cm.Files q))=(T.take (p+1)).any fun t=>A83 D10 t cm.Files:=by rw [hpt];rfl
  rw [e]
  refine k6 (k7 (k7 (k8 J (k4 (k1 (A2 (A3 J J (D6 J J J (A6 J J (A4 ?_))))))))));refine k1 ?_
  exact ⟨p+1,by omega,by omega,Sees.of ⟨le1 rfl,le1 rfl,le1 rfl,le1 rfl,le1 rfl,le1 rfl,le1 rfl,le1 rfl,le1 rfl,trivial⟩ trivial⟩
 have hilt:i < 4:=by have:=A0 ht;omega
 obtain ⟨q,hq,_⟩:=name4 i hilt
 have hq':names4[i]?=some q:=by rw [←hq,K84]
 have hit:=J22 (f:=fun q=>D10 (N3 t q,N3 cm.Files q)) hq'
 refine k5 (k1 (k2 (k3 (k2 (E8 (by kernel_rfl) (by kernel_rfl) (E3 J J (E3 J J (B5 (B2 J (.pure _ _ _ _) J (by omega) hvt) J J (B5 (B0 J J) J J (E3 J J (E3 J J (B5 (B2 J (.pure _ _ _ _) J (by omega) hq) J J (B5 (B0 J J) J J (B5 (O6 (H11 t q (by omega)) J J) J J (E3 J J (B5 (Q0 J J) J J (B5 (Q0 J J) J J (B5 (I2 J J) J J (B5 (I2 J J) J J (P2 ?_))))))))))))))))))));refine k1 (k2 (E8 (by kernel_rfl) (by kernel_rfl) (E3 J J (E3 J J (E3 J J (B5 (B2 J (.pure _ _ _ _) J (by omega) hvk) J J (B5 (B0 J J) J J (B5 (B2 J (.pure _ _ _ _) J (by omega) hvc) J J (B5 (B7 J) J J (B5 (B0 J J) J J (E3 J J (E3 J J (B5 (B2 J (.pure _ _ _ _) J (by omega) hq) J J (B5 (B0 J J) J J (B5 (O6 (H11 cm.Files q (by omega)) J J) J J (E3 J J (B5 (Q0 J J) J J (B5 (Q0 J J) J J (B5 (I2 J J) J J (B5 (I2 J J) J J (P2 ?_)))))))))))))))))))));refine k1 ?_
 obtain ⟨b,hb⟩:∃b,b=(b0||(names4.take i).any fun q=>D10 (N3 t q,N3 cm.Files q)):=⟨_,rfl⟩
 have hnx:(b0||(names4.take (i+1)).any fun q=>D10 (N3 t q,N3 cm.Files q))=(b||D10 (N3 t q,N3 cm.Files q)):=by rw [hit,hb,Bool.or_assoc]
 rw [←hb]
 cases b with
 | true =>
  refine A2 (A3 J J (A3 J J (I8 J J J (by decide) J (I8 J J J (by decide) J (I8 J J J (by decide) J (A5 (R3 J (rfl) J) J (A6 J J (A4 ?_))))))));refine k4 (k1 (A2 (A3 J J (D6 J J J (A6 J J (A4 ?_))))));refine k1 ?_;refine ⟨i+1,by omega,by omega,?_⟩
  (try dsimp only)
  rw [hnx]
  exact Sees.of ⟨le1 rfl,le1 rfl,le1 rfl,le1 rfl,le1 rfl,le1 rfl,le1 rfl,le1 rfl,le1 rfl,le1 rfl,trivial⟩ trivial
 | false =>
  refine A2 (A3 J J (A3 J J (H4 J J J J (A3 J J (H4 J J J J (A3 J J (H4 J J J J (A5 (G25 J J) J (A5 (S6 J (rfl) J) J (A6 J J (A4 ?_)))))))))));refine k4 (k1 (A2 (A3 J J (D6 J J J (A6 J J (A4 ?_))))));refine k1 ?_;refine ⟨i+1,by omega,by omega,?_⟩
  (try dsimp only)
  rw [hnx]
  exact Sees.of ⟨le1 rfl,le1 rfl,le1 rfl,le1 rfl,le1 rfl,le1 rfl,le1 rfl,le1 rfl,le1 rfl,le1 rfl,trivial⟩ trivial
end Go.Proofs.YtkahafmcmiiolaaGreatDoor
