/- Walks of the program's functions. -/
import Derived.Test.YtkahafmcmiiolaaGreatDoorFc
import Derived.Test.YtkahafmcmiiolaaGreatDoorFd
import Derived.Test.YtkahafmcmiiolaaGreatDoorFs
import Derived.Test.YtkahafmcmiiolaaGreatDoorFb
import Derived.Test.YtkahafmcmiiolaaGreatDoorFa
set_option linter.unusedSimpArgs false
namespace Go.Proofs.YtkahafmcmiiolaaGreatDoor
open Go Go.AL
set_option maxRecDepth 100000
set_option maxHeartbeats 1000000
abbrev B42 (ns:List AL.Node) (w:List Int):Ob:=.box [.p (.list AL.Node 8 s7 ns),.p (.list Int 1 E4 w),.mut 821]
abbrev p8 (l:List AL.State):Ob:=.grow 117 AL.State 7 A51 l
abbrev B43:S1:=.one (.ref 820 0)
theorem L8 {K:List Nat} {T rest:Obs} {k:Nat} (hn:B8 rest k=none) (h:∀j x,M4 K j=false→B8 rest j=some x→B8 T j=some x):∀j x,M4 K j=false→B8 rest j=some x→B8 (Obs.drop k T) j=some x:=by
 intro j x hj hx
 have:j≠k:=fun e=>by rw [e,hn] at hx;cases hx
 rw [B14 this]
 exact h j x hj hx
theorem w7 {gf:Fr} {ob:Obs} {ns:List AL.Node} {w:List Int} (l:List AL.State) (q:AL.State) (hl:l.length≤100000) (h0:B8 ob 820=some (B42 ns w)) (h1:B8 ob 821=some (p8 l)) :
  AL.Met Tryz.prog 60 [B43,(I93 q).s1] gf ob [821] (fun rs ob'=>rs=[M7 l.length]∧ob'=(820,B42 ns w)::(821,p8 (l++[q]))::Obs.forget 821 ob):=by
 refine AL.Met.introH Tryz.func60 (by decide) rfl rfl rfl (fun hH=>?_)
 refine D8 (K58 821 (l:=[(0,.s B43),(1,.s (I93 q).s1)]) (L:=[(820,_),(821,_)]) ⟨le1 rfl,le1 rfl,trivial⟩ hH (by repeat (first | exact A8 | refine A9 rfl ?_)) ⟨h0,h1,trivial⟩) ?_
 refine k2 (A2 (A5 (o9 J J J) J (A6 J J (A4 ?_))));refine k1 (k2 ?_);refine D8 (K57 (gf':=Fr.forget 821 gf) (l:=[(0,.s B43),(3,.s (.one (.eref Unit 7 (fun _ j=>(cellsOf A51 q 0 7).getD j (.v undef)) () 0)))]) (ob':=[(820,B42 ns w),(821,p8 l)]++Obs.forget 821 ob) ⟨le1 rfl,le1 rfl,trivial⟩ (z6 hH) (by repeat (first | exact A8 | refine A9 rfl ?_)) (fun _ _ h=>h)) ?_
 refine P3 [10,7] [[],[7],[10,7]] [(7,([821],[9])),(10,([],[]))] [(0,[]),(1,[]),(2,[]),(3,[]),(4,[]),(5,[]),(6,[]),(7,[]),(8,[7]),(9,[7]),(10,[7])] [(0,[7])] (by kernel_rfl) (by kernel_rfl) (E9 J J (by kernel_rfl) J J (B9 J J) (E9 J J (by kernel_rfl) J J (B9 J J) (E9 J J (by kernel_rfl) J J (B4 J) (E9 J J (by kernel_rfl) J J (A7 J) (E9 J J (by kernel_rfl) J J (C9 J J J) (E9 J J (by kernel_rfl) J J (E2 J J) (E9 J J (by kernel_rfl) J J (C5 (c:=A51) (ys:=[q]) (E0 J J J J G5) J J J) (Y2 J J (by kernel_rfl) J J (D48 (fun frc hU=>S5 (S2 hU J) J (S2 hU J) (.pure _ _ _ _) (by (simp only [K87,K90];omega)) J)) J (E9 J J (by kernel_rfl) J J (B4 J) (E9 J J (by kernel_rfl) J J (A7 J) (Y2 J J (by kernel_rfl) J J (A61 (fun frc hU=>C1 TySz.out (S2 hU J) J (S2 hU J) J J J)) J ?_)))))))))));refine D49 (ks:=[821]) rfl (by kernel_rfl) rfl ?_ ?_
 ·refine O1 J J (by kernel_rfl) J J (B9 J J) ?_;exact B84
 refine k1 (k2 (A2 (A3 J J (A5 (B4 J) J (A5 (A7 J) J (G7 J J J J (A5 (V5 J J) J (A5 (L7 J J (by (simp only [K86,List.length_singleton];omega))) J (A6 J J (A4 ?_))))))))));refine k1 (k10 ?_);refine E1 (I1 rfl rfl) (by repeat (first | exact A8 | refine tail_drop rfl ?_ | refine A9 rfl ?_ | refine H2 _ ?_ | refine C2 _ ?_)) (C8 (L:=[(820,_),(821,_)]) ⟨rfl,rfl,trivial⟩ (by repeat (first | exact C0 | refine C4 rfl ?_ | refine K5 _ ?_))) ⟨?_,rfl⟩
 rw [K86,List.length_singleton]
 congr 5
 omega
section
variable (ns:List AL.Node) (w:List Int)
theorem j4:∀f:Nat,(∀i next st st' r,V3 ns w f i next st=some (st',r)→st.length≤st'.length)∧(∀ks next st st' r,catB ns w f ks next st=some (st',r)→st.length≤st'.length)∧(∀ks next s0 st st' r,G85 ns w f ks next s0 st=some (st',r)→st.length≤st'.length) ∧
  (∀kid m last next st st' r,F28 ns w f kid m last next st=some (st',r)→st.length≤st'.length)∧(∀kid m next st st' r,F29 ns w f kid m next st=some (st',r)→st.length≤st'.length)
 | 0=>⟨(fun _ _ _ _ _ h=>by cases h),(fun _ _ _ _ _ h=>by cases h),(fun _ _ _ _ _ _ h=>by cases h),(fun _ _ _ _ _ _ _ h=>by cases h),(fun _ _ _ _ _ _ h=>by cases h)⟩
 | f + 1=>by
  obtain ⟨hB,hC,hA,hX,hN⟩:=j4 f
  refine ⟨fun i next st st' r h=>?_,fun ks next st st' r h=>?_,fun ks next s0 st st' r h=>?_,fun kid m last next st st' r h=>?_,fun kid m next st st' r h=>?_⟩
  ·rw [V3] at h
   dsimp only at h
   split at h
   ·cases h;exact Nat.le_refl _
   split at h
   ·cases h;simp
   split at h
   ·cases h;simp
   split at h
   ·cases h;simp
   split at h
   ·exact hC _ _ _ _ _ h
   split at h
   ·split at h
    ·cases h
    ·split at h
     ·cases h
     ·rename_i h1
      exact Nat.le_trans (hB _ _ _ _ _ h1) (hA _ _ _ _ _ _ h)
   split at h
   ·split at h
    ·split at h
     ·cases h
     ·rename_i h1
      have h2:=hB _ _ _ _ _ h1
      have h3:=hN _ _ _ _ _ _ h
      rw [K86,List.length_singleton] at h2
      rw [L06] at h3
      omega
    ·split at h
     ·cases h
     ·rename_i h1
      exact Nat.le_trans (hX _ _ _ _ _ _ _ h1) (hN _ _ _ _ _ _ h)
   ·cases h;exact Nat.le_refl _
  ·cases ks with
   | nil=>rw [catB] at h;cases h;exact Nat.le_refl _
   | cons k ks =>
    rw [catB] at h
    split at h
    ·cases h
    ·rename_i h1
     exact Nat.le_trans (hB _ _ _ _ _ h1) (hC _ _ _ _ _ h)
  ·cases ks with
   | nil=>rw [G85] at h;cases h;exact Nat.le_refl _
   | cons k ks =>
    rw [G85] at h
    split at h
    ·cases h
    ·rename_i h1
     have h2:=hB _ _ _ _ _ h1
     have h3:=hA _ _ _ _ _ _ h
     rw [K86,List.length_singleton] at h3
     omega
  ·cases m with
   | zero=>rw [F28] at h;cases h;exact Nat.le_refl _
   | succ m =>
    rw [F28] at h
    split at h
    ·cases h
    ·rename_i h1
     have h2:=hB _ _ _ _ _ h1
     have h3:=hX _ _ _ _ _ _ _ h
     rw [K86,List.length_singleton] at h3
     omega
  ·cases m with
   | zero=>rw [F29] at h;cases h;exact Nat.le_refl _
   | succ m =>
    rw [F29] at h
    split at h
    ·cases h
    ·rename_i h1
     exact Nat.le_trans (hB _ _ _ _ _ h1) (hN _ _ _ _ _ _ h)
end
def E92 (ns:List AL.Node) (w:List Int) (f:Nat):Prop:=∀(i:Int) (next:Int) (st st':List AL.State) (r:Int),V3 ns w f i next st=some (st',r)→(0≤i∧i < ns.length)→st'.length≤20000 →
 ∀{gf:Fr} {ob:Obs},B8 ob 820=some (B42 ns w)→B8 ob 821=some (p8 st)→B8 ob 824=none →
  AL.Met Tryz.prog 61 [B43,M7 i,M7 next] gf ob [821,824] (fun rs ob'=>rs=[M7 r]∧ob'=(820,B42 ns w)::(821,p8 st')::F0 [821,824] ob)
theorem taker {ks:List Int} {j:Nat} {k:Int} (h:ks[j]?=some k):(ks.take (j+1)).reverse=k::(ks.take j).reverse:=by
 rw [List.take_add_one,h,Option.toList_some,List.reverse_append];rfl
theorem I57 {ns:List AL.Node} {w:List Int} {F:Nat} (IH:∀g,g≤F→E92 ns w g) (ks:List Int) (next:Int) (st st1 st':List AL.State) (s0 r k:Int) (kr:List Int) (hk:ks.reverse=k::kr) (hks:∀k∈ks,0≤k∧k < ns.length) (hkl:ks.length≤4000) (hb:V3 ns w F k next st=some (st1,s0)) (ha:G85 ns w F kr next s0 st1=some (st',r)) (hl:st'.length≤20000)
  {gf:Fr} {ob:Obs} (h0:B8 ob 820=some (B42 ns w)) (h1:B8 ob 821=some (p8 st)) (h2:B8 ob 824=none) :
  AL.Met Tryz.prog 91 [B43,.one (.p (.list Int 1 E4 ks)),M7 next] gf ob [821,824] (fun rs ob'=>rs=[M7 r]∧ob'=(820,B42 ns w)::(821,p8 st')::F0 [821,824] ob):=by
 have hlen:ks.length=kr.length+1:=by have:=congrArg List.length hk;rwa [L30,K87] at this
 have hkr:kr=(ks.take kr.length).reverse:=by
  have h3:ks=kr.reverse++[k]:=by rw [←List.reverse_reverse ks,hk,List.reverse_cons]
  rw [h3,List.take_append_of_le_length (by simp),L09 (by simp),List.reverse_reverse]
 have hkv:ks[(((ks.length:Nat):Int) - 1).toNat]?=some k:=by
  have h3:ks=kr.reverse++[k]:=by rw [←List.reverse_reverse ks,hk,List.reverse_cons]
  rw [show (((ks.length:Nat):Int) - 1).toNat=kr.reverse.length by rw [L30];omega,h3]
  exact List.getElem?_concat_length
 have hm1:=(j4 ns w F).2.2.1 _ _ _ _ _ _ ha
 refine AL.Met.introH Tryz.func91 (by decide) rfl rfl rfl (fun hH=>?_)
 refine D8 (K58 821 (l:=[(0,.s B43),(1,D3 Int 1 E4 ks),(2,.s (M7 next))]) (L:=[(820,_),(821,_)]) ⟨le1 rfl,le1 rfl,le1 rfl,trivial⟩ hH (by repeat (first | exact A8 | refine A9 rfl ?_)) ⟨h0,h1,trivial⟩) ?_
 refine D8 (Sees.forget 824) ?_
 have hf3:B8 (F0 [821,824] ob) 824=none:=L6 h2
 refine D8 (K57 (gf':=C6 [821,824] gf) (l:=[(0,.s B43),(1,D3 Int 1 E4 ks),(2,.s (M7 next))]) (ob':=[(820,B42 ns w),(821,p8 st)]++F0 [821,824] ob) ⟨le1 rfl,le1 rfl,le1 rfl,trivial⟩ (D5 hH) (by repeat (first | exact A8 | refine tail_drop rfl ?_ | refine A9 rfl ?_ | refine F4 _ rfl ?_)) (C8 (L:=[(820,_),(821,_)]) ⟨rfl,rfl,trivial⟩ (by repeat (first | exact C0 | refine C4 rfl ?_)))) ?_
 refine k2 (A2 (A6 J J (A4 ?_)));refine k1 (k2 (A2 (A3 J J (E5 J J (A5 (L7 J J (by omega)) J (A6 J J (A4 ?_)))))));refine k1 (k2 (A2 (A3 J J (A3 J J (A3 J J (A5 (B2 J (.pure _ _ _ _) J (by omega) hkv) J (A5 (B0 J J) J (A3 J J (G8 (IH F (Nat.le_refl _) k next st st1 s0 hb (hks k (K93 hkv)) (by omega) J J hf3) J J J ?_)))))))));rintro _ _ ⟨rfl,rfl⟩;refine A6 J J (A4 ?_);refine k1 (k2 (k2 (A2 (A3 J J (A5 (L7 J J (by omega)) J (A6 J J (A4 ?_)))))));refine k1 (k3 ?_);refine D2 (X:=Nat × Nat × Int × List AL.State) (fun x=>([(0,.s B43),(1,D3 Int 1 E4 ks),(2,.s (M7 next)),(8,C3 x.2.2.1),(9,C3 ((x.2.1:Int) - 1))]++C6 [821,824] gf,[(820,B42 ns w),(821,p8 x.2.2.2)]++F0 [821,824] ob)) (fun x=>x.1≤F∧x.2.1≤kr.length∧G85 ns w x.1 (ks.take x.2.1).reverse next x.2.2.1 x.2.2.2=some (st',r)) (fun x=>x.2.1) (F,kr.length,s0,st1) ⟨Nat.le_refl _,Nat.le_refl _,by dsimp only;rw [←hkr];exact ha⟩ ?_ ?_
 ·dsimp only
  rw [show ((kr.length:Int) - 1)=((ks.length:Int) - 1 - 1) by omega]
  exact K57 ⟨le1 rfl,le1 rfl,le1 rfl,le1 rfl,le1 rfl,trivial⟩ (D5 hH) (by repeat (first | exact A8 | refine tail_drop rfl ?_ | refine A9 rfl ?_ | refine F4 _ rfl ?_)) (C8 (L:=[(820,_),(821,_)]) ⟨rfl,rfl,trivial⟩ (by repeat (first | exact C0 | refine C4 rfl ?_ | refine D9 hf3 ?_ | refine L0 _ rfl ?_ | refine L8 hf3 ?_)))
 rintro ⟨f,c,s1,sx⟩ ⟨hf,hc,hA⟩
 dsimp only at hf hc hA ⊢
 refine k2 (k2 (A2 (A3 J J (A5 (V4 J J) J (A4 ?_)))));refine k1 ?_;refine B1 rfl (fun ht=>?_) (fun ht=>?_)
 rotate_left
 ·have hc0:c=0:=by have:=A1 ht;omega
  subst hc0
  have hf0:f≠0:=fun e=>by rw [e] at hA;cases hA
  obtain ⟨f,rfl⟩:∃g,f=g+1:=⟨f - 1,by omega⟩
  rw [List.take_zero,List.reverse_nil,G85] at hA
  cases hA
  refine k6 (k2 (A2 (A3 J J (A6 J J (A4 ?_)))));refine k1 (k10 ?_)
  exact E1 (I1 rfl rfl) (by repeat (first | exact A8 | refine tail_drop rfl ?_ | refine A9 rfl ?_ | refine F4 _ rfl ?_)) (C8 (L:=[(820,_),(821,_)]) ⟨rfl,rfl,trivial⟩ (by repeat (first | exact C0 | refine C4 rfl ?_ | refine D9 hf3 ?_ | refine L0 _ rfl ?_ | refine L8 hf3 ?_))) ⟨rfl,rfl⟩
 have hcp:0 < c:=by have:=A0 ht;omega
 obtain ⟨c,rfl⟩:∃g,c=g+1:=⟨c - 1,by omega⟩
 obtain ⟨kc,hkc⟩:∃kc,kc=ks[c]'(by omega):=⟨_,rfl⟩
 have hkv2:ks[c]?=some kc:=by rw [hkc];exact K82 (by omega)
 have hkv3:ks[(((c+1:Nat):Int) - 1).toNat]?=some kc:=by rw [show (((c+1:Nat):Int) - 1).toNat=c by omega];exact hkv2
 rw [taker hkv2] at hA
 have hf0:f≠0:=fun e=>by rw [e] at hA;cases hA
 obtain ⟨f,rfl⟩:∃g,f=g+1:=⟨f - 1,by omega⟩
 rw [G85] at hA
 cases hbk:V3 ns w f kc next sx with
 | none=>rw [hbk] at hA;cases hA
 | some y =>
  obtain ⟨sy,b⟩:=y
  rw [hbk] at hA
  dsimp only at hA
  have hm2:=(j4 ns w f).2.2.1 _ _ _ _ _ _ hA
  rw [K86,List.length_singleton] at hm2
  refine k5 (k1 (k2 (k3 (A2 (A3 J J (A3 J J (A3 J J (A3 J J (A5 (B2 J (.pure _ _ _ _) J (by omega) hkv3) J (A5 (B0 J J) J (A3 J J (G8 (IH f (by omega) kc next sx sy b hbk (hks kc (K93 hkv2)) (by omega) J J hf3) J J J ?_))))))))))));rintro _ _ ⟨rfl,rfl⟩;refine A3 J J (A5 (J4 J) J (G8 (w7 sy ⟨1,⟨0,0,0,0⟩,b,s1⟩ (by omega) J J) J J J ?_));rintro _ _ ⟨rfl,rfl⟩;refine A6 J J (A4 ?_);refine k4 (k1 (A2 (A3 J J (A5 (L7 J J (by omega)) J (A6 J J (A4 ?_))))));refine k1 ?_;refine ⟨(f,c,(sy.length:Int),sy++[⟨1,⟨0,0,0,0⟩,b,s1⟩]),⟨by dsimp only;omega,by dsimp only;omega,hA⟩,by dsimp only;omega,?_⟩
  dsimp only
  rw [show ((c:Int) - 1)=(((c+1:Nat):Int) - 1 - 1) by omega]
  exact K57 ⟨le1 rfl,le1 rfl,le1 rfl,le1 rfl,le1 rfl,trivial⟩ (D5 hH) (by repeat (first | exact A8 | refine tail_drop rfl ?_ | refine A9 rfl ?_ | refine F4 _ rfl ?_)) (C8 (L:=[(820,_),(821,_)]) ⟨rfl,rfl,trivial⟩ (by repeat (first | exact C0 | refine C4 rfl ?_ | refine D9 hf3 ?_ | refine L0 _ rfl ?_ | refine L8 hf3 ?_)))
theorem H50 {ns:List AL.Node} {w:List Int} {F:Nat} (IH:∀g,g≤F→E92 ns w g) (n:AL.Node) (kid next:Int) (st st0 stM st':List AL.State) (nx nM r:Int) (hk0:n.Kids[(0:Int).toNat]?=some kid) (hki:0≤kid∧kid < ns.length) (hb1:0≤n.Min∧n.Min≤100∧(n.Max = -1∨n.Min≤n.Max∧n.Max≤100))
  (hlo:n.Max < 0→∃sa a,V3 ns w F kid st.length (st++[⟨1,⟨0,0,0,0⟩,0,next⟩])=some (sa,a)∧st0=sa.set st.length { (sa.getD st.length x4) with Next:=a }∧nx=st.length) (hhi:¬n.Max < 0→st0=st∧nx=next)
  (hmx:F28 ns w F kid (n.Max - n.Min).toNat nx nx st0=some (stM,nM)) (hmn:F29 ns w F kid n.Min.toNat nM stM=some (st',r)) (hl:st'.length≤20000)
  {gf:Fr} {ob:Obs} (h0:B8 ob 820=some (B42 ns w)) (h1:B8 ob 821=some (p8 st)) (h2:B8 ob 824=none) :
  AL.Met Tryz.prog 92 [B43,(E12 n).s1,M7 next] gf ob [821,824] (fun rs ob'=>rs=[M7 r]∧ob'=(820,B42 ns w)::(821,p8 st')::F0 [821,824] ob):=by
 have hm1:=(j4 ns w F).2.2.2.2 _ _ _ _ _ _ hmn
 have hm2:=(j4 ns w F).2.2.2.1 _ _ _ _ _ _ _ hmx
 refine AL.Met.introH Tryz.func92 (by decide) rfl rfl rfl (fun hH=>?_)
 refine D8 (K58 821 (l:=[(0,.s B43),(1,.s (E12 n).s1),(2,.s (M7 next))]) (L:=[(820,_),(821,_)]) ⟨le1 rfl,le1 rfl,le1 rfl,trivial⟩ hH (by repeat (first | exact A8 | refine A9 rfl ?_)) ⟨h0,h1,trivial⟩) ?_
 refine D8 (Sees.forget 824) ?_
 have hf3:B8 (F0 [821,824] ob) 824=none:=L6 h2
 refine D8 (K57 (gf':=C6 [821,824] gf) (l:=[(0,.s B43),(1,.s (E12 n).s1),(2,.s (M7 next))]) (ob':=[(820,B42 ns w),(821,p8 st)]++F0 [821,824] ob) ⟨le1 rfl,le1 rfl,le1 rfl,trivial⟩ (D5 hH) (by repeat (first | exact A8 | refine tail_drop rfl ?_ | refine A9 rfl ?_ | refine F4 _ rfl ?_)) (C8 (L:=[(820,_),(821,_)]) ⟨rfl,rfl,trivial⟩ (by repeat (first | exact C0 | refine C4 rfl ?_)))) ?_
 refine k2 (A2 (A5 (o9 J J J) J (A6 J J (A4 ?_))));refine k1 (k2 (A2 (A5 (B7 J) J (A5 (B0 J J) J (A5 (B2 J (.pure _ _ _ _) J (by omega) hk0) J (A5 (B0 J J) J (A6 J J (A4 ?_))))))));refine k1 (k2 (k2 (A2 (A5 (B7 J) J (A5 (B0 J J) J (F3 J J J (A4 ?_)))))));refine k1 ?_;refine C20 ([(0,.s B43),(2,C3 nx),(4,.s (.one (.eref Unit 8 (fun _ j=>(cellsOf s7 n 0 8).getD j (.v undef)) () 0))),(7,C3 kid)]++C6 [821,824] gf) ([(820,B42 ns w),(821,p8 st0)]++F0 [821,824] ob) ?_ ?_
 ·skip
  refine B1 rfl (fun ht=>?_) (fun ht=>?_)
  ·obtain ⟨sa,a,hba,e0,e1⟩:=hlo (A0 ht)
   subst e0 e1
   have hm3:=(j4 ns w F).1 _ _ _ _ _ hba
   rw [K86,List.length_singleton] at hm3
   rw [L06] at hm2
   refine k2 (A2 (A3 J J (A3 J J (A5 (J4 J) J (G8 (w7 st ⟨1,⟨0,0,0,0⟩,0,next⟩ (by omega) J J) J J J ?_)))));rintro _ _ ⟨rfl,rfl⟩;refine A6 J J (A4 ?_);refine k1 (k2 ?_)
   have hf4:B8 (Obs.forget 821 (F0 [821,824] ob)) 824=none:=by rw [J1,hf3];rfl
   refine A2 (A3 J J (A3 J J (A3 J J (G8 (IH F (Nat.le_refl _) kid st.length (st++[⟨1,⟨0,0,0,0⟩,0,next⟩]) sa a hba hki (by omega) J J hf4) J J J ?_))));rintro _ _ ⟨rfl,rfl⟩;refine A6 J J (A4 ?_);refine k1 (k2 ?_)
   have hv2:sa[((st.length:Nat):Int).toNat]?=some (sa.getD st.length x4):=by
    rw [K84,K88,K82 (by omega)];rfl
   refine D8 (K57 (gf':=C6 [821,824] gf) (l:=[(0,.s B43),(4,.s (.one (.eref Unit 8 (fun _ j=>(cellsOf s7 n 0 8).getD j (.v undef)) () 0))),(7,C3 kid),(8,C3 st.length),(9,C3 a)]) (ob':=[(820,B42 ns w),(821,p8 sa)]++F0 [821,824] ob) ⟨le1 rfl,le1 rfl,le1 rfl,le1 rfl,le1 rfl,trivial⟩ (D5 hH) (by repeat (first | exact A8 | refine tail_drop rfl ?_ | refine A9 rfl ?_ | refine F4 _ rfl ?_)) (C8 (L:=[(820,_),(821,_)]) ⟨rfl,rfl,trivial⟩ (by repeat (first | exact C0 | refine C4 rfl ?_ | refine D9 hf3 ?_ | refine L0 _ rfl ?_ | refine L8 hf3 ?_)))) ?_
   refine A2 (A3 J J (A5 (B4 J) J (A5 (A7 J) J (G7 J J J J (A3 J J (A3 J J (A5 (H6 J J J (by omega) (by omega)) J (A5 (G26 J) J (H1 (v7 ({ (sa.getD st.length x4) with Next:=a }) TySz.out J J hv2 J J J J (fun _ _ _ h=>o7 h) (by intro j h1 h2;rcases j with _ | _ | _ | _ | _ | _ | _ | j<;>first | rfl | omega)) ?_)))))))));refine A4 ?_;refine k1 (A2 (A3 J J (A6 J J (A4 ?_))));refine k1 ?_
   exact K57 ⟨le1 rfl,le1 rfl,le1 rfl,le1 rfl,trivial⟩ (D5 hH) (by repeat (first | exact A8 | refine tail_drop rfl ?_ | refine A9 rfl ?_ | refine F4 _ rfl ?_)) (C8 (L:=[(820,_),(821,_)]) ⟨rfl,rfl,trivial⟩ (by repeat (first | exact C0 | refine C4 rfl ?_ | refine D9 hf3 ?_ | refine L0 _ rfl ?_ | refine L8 hf3 ?_)))
  ·obtain ⟨e0,e1⟩:=hhi (A1 ht)
   subst e0 e1
   refine k5 (k1 ?_)
   exact K57 ⟨le1 rfl,le1 rfl,le1 rfl,le1 rfl,trivial⟩ (D5 hH) (by repeat (first | exact A8 | refine tail_drop rfl ?_ | refine A9 rfl ?_ | refine F4 _ rfl ?_)) (C8 (L:=[(820,_),(821,_)]) ⟨rfl,rfl,trivial⟩ (by repeat (first | exact C0 | refine C4 rfl ?_ | refine D9 hf3 ?_ | refine L0 _ rfl ?_ | refine L8 hf3 ?_)))
 refine k2 (A2 (A3 J J (A6 J J (A4 ?_))));refine k1 (k2 (k2 (A2 (A5 (B7 J) J (A5 (B0 J J) J (A5 (B7 J) J (A5 (B0 J J) J (A5 (L7 J J (by omega)) J (A3 J J (A4 ?_))))))))));refine k1 (k3 ?_);refine D2 (X:=Nat × Nat × Int × List AL.State) (fun x=>([(0,.s B43),(2,C3 x.2.2.1),(4,.s (.one (.eref Unit 8 (fun _ j=>(cellsOf s7 n 0 8).getD j (.v undef)) () 0))),(7,C3 kid),(10,C3 nx),(40,C3 (n.Max - n.Min)),(41,C3 (((n.Max - n.Min).toNat:Int) - x.2.1))]++C6 [821,824] gf,[(820,B42 ns w),(821,p8 x.2.2.2)]++F0 [821,824] ob)) (fun x=>x.1≤F∧x.2.1≤(n.Max - n.Min).toNat∧F28 ns w x.1 kid x.2.1 nx x.2.2.1 x.2.2.2=some (stM,nM)) (fun x=>x.2.1) (F,(n.Max - n.Min).toNat,nx,st0) ⟨Nat.le_refl _,Nat.le_refl _,hmx⟩ ?_ ?_
 ·dsimp only
  rw [Int.sub_self]
  exact K57 ⟨le1 rfl,le1 rfl,le1 rfl,le1 rfl,le1 rfl,le1 rfl,le1 rfl,trivial⟩ (D5 hH) (by repeat (first | exact A8 | refine tail_drop rfl ?_ | refine A9 rfl ?_ | refine F4 _ rfl ?_)) (C8 (L:=[(820,_),(821,_)]) ⟨rfl,rfl,trivial⟩ (by repeat (first | exact C0 | refine C4 rfl ?_ | refine D9 hf3 ?_ | refine L0 _ rfl ?_ | refine L8 hf3 ?_)))
 rintro ⟨f,c,s1,sx⟩ ⟨hf,hc,hA⟩
 dsimp only at hf hc hA ⊢
 have hf0:f≠0:=fun e=>by rw [e] at hA;cases hA
 obtain ⟨f,rfl⟩:∃g,f=g+1:=⟨f - 1,by omega⟩
 refine k2 (A2 (F3 J J J (A4 ?_)));refine k1 (k2 ?_);refine B1 rfl (fun ht=>?_) (fun ht=>?_)
 ·have hcp:0 < c:=by have:=A0 ht;omega
  obtain ⟨c,rfl⟩:∃g,c=g+1:=⟨c - 1,by omega⟩
  rw [F28] at hA
  cases hbk:V3 ns w f kid s1 sx with
  | none=>rw [hbk] at hA;cases hA
  | some y =>
   obtain ⟨sy,b⟩:=y
   rw [hbk] at hA
   dsimp only at hA
   have hm4:=(j4 ns w f).2.2.2.1 _ _ _ _ _ _ _ hA
   rw [K86,List.length_singleton] at hm4
   refine k5 (k1 (k2 (k3 (A2 (A3 J J (A3 J J (A3 J J (A3 J J (G8 (IH f (by omega) kid s1 sx sy b hbk hki (by omega) J J hf3) J J J ?_)))))))));rintro _ _ ⟨rfl,rfl⟩;refine A3 J J (A5 (J4 J) J (G8 (w7 sy ⟨1,⟨0,0,0,0⟩,b,nx⟩ (by omega) J J) J J J ?_));rintro _ _ ⟨rfl,rfl⟩;refine A6 J J (A4 ?_);refine k4 (k1 (A2 (D6 J J J (A3 J J (A4 ?_)))));refine k1 ?_;refine ⟨(f,c,(sy.length:Int),sy++[⟨1,⟨0,0,0,0⟩,b,nx⟩]),⟨by dsimp only;omega,by dsimp only;omega,hA⟩,by dsimp only;omega,?_⟩
   dsimp only
   rw [show (((n.Max - n.Min).toNat:Int) - (c:Int))=((n.Max - n.Min).toNat:Int) - ((c+1:Nat):Int)+1 by omega]
   exact K57 ⟨le1 rfl,le1 rfl,le1 rfl,le1 rfl,le1 rfl,le1 rfl,le1 rfl,trivial⟩ (D5 hH) (by repeat (first | exact A8 | refine tail_drop rfl ?_ | refine A9 rfl ?_ | refine F4 _ rfl ?_)) (C8 (L:=[(820,_),(821,_)]) ⟨rfl,rfl,trivial⟩ (by repeat (first | exact C0 | refine C4 rfl ?_ | refine D9 hf3 ?_ | refine L0 _ rfl ?_ | refine L8 hf3 ?_)))
 have hc0:c=0:=by have:=A1 ht;omega
 subst hc0
 rw [F28] at hA
 cases hA
 refine k6 (k2 (k2 (A2 (A5 (B7 J) J (A5 (B0 J J) J (A3 J J (A4 ?_)))))));refine k1 (k3 ?_);refine D2 (X:=Nat × Nat × Int × List AL.State) (fun x=>([(0,.s B43),(2,C3 x.2.2.1),(7,C3 kid),(53,C3 n.Min),(54,C3 (n.Min - x.2.1))]++C6 [821,824] gf,[(820,B42 ns w),(821,p8 x.2.2.2)]++F0 [821,824] ob)) (fun x=>x.1≤F∧x.2.1≤n.Min.toNat∧F29 ns w x.1 kid x.2.1 x.2.2.1 x.2.2.2=some (st',r)) (fun x=>x.2.1) (F,n.Min.toNat,nM,stM) ⟨Nat.le_refl _,Nat.le_refl _,hmn⟩ ?_ ?_
 ·dsimp only
  rw [show n.Min - (n.Min.toNat:Int)=0 by omega]
  exact K57 ⟨le1 rfl,le1 rfl,le1 rfl,le1 rfl,le1 rfl,trivial⟩ (D5 hH) (by repeat (first | exact A8 | refine tail_drop rfl ?_ | refine A9 rfl ?_ | refine F4 _ rfl ?_)) (C8 (L:=[(820,_),(821,_)]) ⟨rfl,rfl,trivial⟩ (by repeat (first | exact C0 | refine C4 rfl ?_ | refine D9 hf3 ?_ | refine L0 _ rfl ?_ | refine L8 hf3 ?_)))
 rintro ⟨f,c,s1,sx⟩ ⟨hf,hc,hA⟩
 dsimp only at hf hc hA ⊢
 have hf0:f≠0:=fun e=>by rw [e] at hA;cases hA
 obtain ⟨f,rfl⟩:∃g,f=g+1:=⟨f - 1,by omega⟩
 refine k2 (A2 (F3 J J J (A4 ?_)));refine k1 (k2 ?_);refine B1 rfl (fun ht=>?_) (fun ht=>?_)
 ·have hcp:0 < c:=by have:=A0 ht;omega
  obtain ⟨c,rfl⟩:∃g,c=g+1:=⟨c - 1,by omega⟩
  rw [F29] at hA
  cases hbk:V3 ns w f kid s1 sx with
  | none=>rw [hbk] at hA;cases hA
  | some y =>
   obtain ⟨sy,b⟩:=y
   rw [hbk] at hA
   dsimp only at hA
   have hm4:=(j4 ns w f).2.2.2.2 _ _ _ _ _ _ hA
   refine k5 (k1 (k2 (k3 (A2 (A3 J J (A3 J J (A3 J J (G8 (IH f (by omega) kid s1 sx sy b hbk hki (by omega) J J hf3) J J J ?_))))))));rintro _ _ ⟨rfl,rfl⟩;refine A6 J J (A4 ?_);refine k4 (k1 (A2 (D6 J J J (A3 J J (A4 ?_)))));refine k1 ?_;refine ⟨(f,c,b,sy),⟨by dsimp only;omega,by dsimp only;omega,hA⟩,by dsimp only;omega,?_⟩
   dsimp only
   rw [show (n.Min - (c:Int))=n.Min - ((c+1:Nat):Int)+1 by omega]
   exact K57 ⟨le1 rfl,le1 rfl,le1 rfl,le1 rfl,le1 rfl,trivial⟩ (D5 hH) (by repeat (first | exact A8 | refine tail_drop rfl ?_ | refine A9 rfl ?_ | refine F4 _ rfl ?_)) (C8 (L:=[(820,_),(821,_)]) ⟨rfl,rfl,trivial⟩ (by repeat (first | exact C0 | refine C4 rfl ?_ | refine D9 hf3 ?_ | refine L0 _ rfl ?_ | refine L8 hf3 ?_)))
 have hc0:c=0:=by have:=A1 ht;omega
 subst hc0
 rw [F29] at hA
 cases hA
 refine k6 (k2 (A2 (A3 J J (A6 J J (A4 ?_)))));refine k1 (k10 ?_)
 exact E1 (I1 rfl rfl) (by repeat (first | exact A8 | refine tail_drop rfl ?_ | refine A9 rfl ?_ | refine F4 _ rfl ?_)) (C8 (L:=[(820,_),(821,_)]) ⟨rfl,rfl,trivial⟩ (by repeat (first | exact C0 | refine C4 rfl ?_ | refine D9 hf3 ?_ | refine L0 _ rfl ?_ | refine L8 hf3 ?_))) ⟨rfl,rfl⟩
theorem I58 {ns:List AL.Node} {w:List Int} {F:Nat} (hc:B60 ns=0) (hkl:∀n∈ns,n.Kids.length≤4000) (hwl:w.length=ns.length) (IH:∀g,g≤F→E92 ns w g):E92 ns w (F+1):=by
 obtain ⟨hl1,hl2,hfit⟩:=A44 hc
 intro i next st st' r hB hi hl gf ob h0 h1 h2
 obtain ⟨n,hn⟩:∃n,n=ns[i.toNat]'(by omega):=⟨_,rfl⟩
 have hv:ns[i.toNat]?=some n:=by rw [hn];exact K82 (by omega)
 obtain ⟨hki,hX⟩:=B40 (hfit i.toNat n hv)
 have hks:∀k∈n.Kids,0≤k∧k < ns.length:=fun k hk=>by have:=hki k hk;omega
 have hkn:=hkl n (K93 hv)
 have hgd:ns.getD i.toNat B69=n:=by rw [K88,hv];rfl
 have hwv:w[i.toNat]?=some (atG w i.toNat):=by unfold atG;rw [K82 (by omega)];rfl
 have hmono:=(j4 ns w (F+1)).1 _ _ _ _ _ hB
 rw [V3,hgd] at hB
 dsimp only at hB
 refine AL.Met.introH Tryz.func61 (by decide) rfl rfl rfl (fun hH=>?_)
 refine D8 (K58 821 (l:=[(0,.s B43),(1,.s (M7 i)),(2,.s (M7 next))]) (L:=[(820,_),(821,_)]) ⟨le1 rfl,le1 rfl,le1 rfl,trivial⟩ hH (by repeat (first | exact A8 | refine A9 rfl ?_)) ⟨h0,h1,trivial⟩) ?_
 refine D8 (Sees.forget 824) ?_
 have hf3:B8 (F0 [821,824] ob) 824=none:=L6 h2
 refine D8 (K57 (gf':=C6 [821,824] gf) (l:=[(0,.s B43),(1,.s (M7 i)),(2,.s (M7 next))]) (ob':=[(820,B42 ns w),(821,p8 st)]++F0 [821,824] ob) ⟨le1 rfl,le1 rfl,le1 rfl,trivial⟩ (D5 hH) (by repeat (first | exact A8 | refine tail_drop rfl ?_ | refine A9 rfl ?_ | refine F4 _ rfl ?_)) (C8 (L:=[(820,_),(821,_)]) ⟨rfl,rfl,trivial⟩ (by repeat (first | exact C0 | refine C4 rfl ?_)))) ?_
 refine k2 (A2 (A6 J J (A4 ?_)));refine k1 (k2 (k2 (A2 (A3 J J (A5 (B4 J) J (A5 (A7 J) J (G7 J J J J (A3 J J (A5 (B2 J (.pure _ _ _ _) J (by omega) hwv) J (A5 (B0 J J) J (A5 (F7 J J) J (A4 ?_))))))))))));refine k1 ?_;refine B1 rfl (fun ht=>?_) (fun ht=>?_)
 ·rw [if_pos (A0 ht)] at hB
  cases hB
  refine k2 (A2 (A3 J J (A6 J J (A4 ?_))));refine k1 (k10 (k11 ?_))
  exact E1 (I1 rfl rfl) (by repeat (first | exact A8 | refine tail_drop rfl ?_ | refine A9 rfl ?_ | refine F4 _ rfl ?_)) (C8 (L:=[(820,_),(821,_)]) ⟨rfl,rfl,trivial⟩ (by repeat (first | exact C0 | refine C4 rfl ?_ | refine D9 hf3 ?_ | refine L0 _ rfl ?_ | refine L8 hf3 ?_))) ⟨rfl,rfl⟩
 rw [if_neg (A1 ht)] at hB
 refine k5 (k1 (k2 (A2 (A3 J J (A5 (B4 J) J (A5 (A7 J) J (G7 J J J J (A3 J J (A5 (B2 J (.pure _ _ _ _) J (by omega) hv) J (A5 (E2 J J) J (D1 (B27 824 hf3 (by decide)) J (H1 (C1 TySz.out J J J J J J) (A4 ?_)))))))))))));refine k1 (D8 (K74 (t:=7) (k:=824) (cs:=cellsOf s7 n 0 8) J J J J) ?_)
 refine D8 (K57 (gf':=C6 [821,824] gf) (l:=[(0,.s B43),(1,.s (M7 i)),(2,.s (M7 next)),(7,.s (.one (.eref Unit 8 (fun _ j=>(cellsOf s7 n 0 8).getD j (.v undef)) () 0)))]) (ob':=[(820,B42 ns w),(821,p8 st)]++F0 [821,824] ob) ⟨le1 rfl,le1 rfl,le1 rfl,le1 rfl,trivial⟩ (D5 hH) (by repeat (first | exact A8 | refine tail_drop rfl ?_ | refine A9 rfl ?_ | refine F4 _ rfl ?_)) (C8 (L:=[(820,_),(821,_)]) ⟨rfl,rfl,trivial⟩ (by repeat (first | exact C0 | refine C4 rfl ?_ | refine D9 hf3 ?_ | refine L0 _ rfl ?_ | refine L8 hf3 ?_)))) ?_
 refine k2 (k2 (A2 (A5 (B7 J) J (A5 (B0 J J) J (A4 ?_)))));refine k1 (k3 (k2 (A2 (A5 (F7 J J) J (A6 J J (A4 ?_))))));refine k1 ?_;refine B1 rfl (fun ht=>?_) (fun ht=>?_)
 ·have hK:=A0 ht
  rw [if_pos hK] at hB
  cases hB
  refine k2 (A2 (A3 J J (A5 (B7 J) J (A5 (E2 J J) J (A3 J J (A5 (J4 J) J (G8 (w7 st ⟨0,n.Set,next,0⟩ (by simp only [K86,List.length_singleton] at hl;omega) J J) J J J ?_)))))));rintro _ _ ⟨rfl,rfl⟩;refine A6 J J (A4 ?_);refine k1 (k10 (k12 (k11 ?_)))
  exact E1 (I1 rfl rfl) (by repeat (first | exact A8 | refine tail_drop rfl ?_ | refine A9 rfl ?_ | refine F4 _ rfl ?_)) (C8 (L:=[(820,_),(821,_)]) ⟨rfl,rfl,trivial⟩ (by repeat (first | exact C0 | refine C4 rfl ?_ | refine D9 hf3 ?_ | refine L0 _ rfl ?_ | refine L8 hf3 ?_))) ⟨rfl,rfl⟩
 have hK1:=A1 ht
 rw [if_neg hK1] at hB
 refine k2 (A2 (A5 (F7 J J) J (A6 J J (A4 ?_))));refine k1 ?_;refine B1 rfl (fun ht=>?_) (fun ht=>?_)
 ·have hK:=A0 ht
  rw [if_pos hK] at hB
  cases hB
  refine k2 (A2 (A3 J J (A3 J J (A5 (J4 J) J (G8 (w7 st ⟨2,⟨0,0,0,0⟩,next,0⟩ (by simp only [K86,List.length_singleton] at hl;omega) J J) J J J ?_)))));rintro _ _ ⟨rfl,rfl⟩;refine A6 J J (A4 ?_);refine k1 (k10 (k12 (k11 ?_)))
  exact E1 (I1 rfl rfl) (by repeat (first | exact A8 | refine tail_drop rfl ?_ | refine A9 rfl ?_ | refine F4 _ rfl ?_)) (C8 (L:=[(820,_),(821,_)]) ⟨rfl,rfl,trivial⟩ (by repeat (first | exact C0 | refine C4 rfl ?_ | refine D9 hf3 ?_ | refine L0 _ rfl ?_ | refine L8 hf3 ?_))) ⟨rfl,rfl⟩
 have hK2:=A1 ht
 rw [if_neg hK2] at hB
 refine k2 (A2 (A5 (F7 J J) J (A6 J J (A4 ?_))));refine k1 ?_;refine B1 rfl (fun ht=>?_) (fun ht=>?_)
 ·have hK:=A0 ht
  rw [if_pos hK] at hB
  cases hB
  refine k2 (A2 (A3 J J (A3 J J (A5 (J4 J) J (G8 (w7 st ⟨3,⟨0,0,0,0⟩,next,0⟩ (by simp only [K86,List.length_singleton] at hl;omega) J J) J J J ?_)))));rintro _ _ ⟨rfl,rfl⟩;refine A6 J J (A4 ?_);refine k1 (k10 (k12 (k11 ?_)))
  exact E1 (I1 rfl rfl) (by repeat (first | exact A8 | refine tail_drop rfl ?_ | refine A9 rfl ?_ | refine F4 _ rfl ?_)) (C8 (L:=[(820,_),(821,_)]) ⟨rfl,rfl,trivial⟩ (by repeat (first | exact C0 | refine C4 rfl ?_ | refine D9 hf3 ?_ | refine L0 _ rfl ?_ | refine L8 hf3 ?_))) ⟨rfl,rfl⟩
 have hK3:=A1 ht
 rw [if_neg hK3] at hB
 refine k2 (A2 (A5 (F7 J J) J (A6 J J (A4 ?_))));refine k1 ?_;refine B1 rfl (fun ht=>?_) (fun ht=>?_)
 ·have hK:=A0 ht
  rw [if_pos hK] at hB
  refine k2 (A2 (A5 (B7 J) J (A5 (B0 J J) J (E5 J J (A5 (L7 J J (by omega)) J (A6 J J (A4 ?_)))))));refine k1 (k3 ?_);refine D2 (X:=Nat × Nat × Int × List AL.State) (fun x=>([(0,.s B43),(2,C3 x.2.2.1),(7,.s (.one (.eref Unit 8 (fun _ j=>(cellsOf s7 n 0 8).getD j (.v undef)) () 0))),(8,C3 ((x.2.1:Int) - 1))]++C6 [821,824] gf,[(820,B42 ns w),(821,p8 x.2.2.2)]++F0 [821,824] ob)) (fun x=>x.1≤F∧x.2.1≤n.Kids.length∧catB ns w x.1 (n.Kids.take x.2.1).reverse x.2.2.1 x.2.2.2=some (st',r)) (fun x=>x.2.1) (F,n.Kids.length,next,st) ⟨Nat.le_refl _,Nat.le_refl _,by dsimp only;rw [K89];exact hB⟩ ?_ ?_
  ·exact K57 ⟨le1 rfl,le1 rfl,le1 rfl,le1 rfl,trivial⟩ (D5 hH) (by repeat (first | exact A8 | refine tail_drop rfl ?_ | refine A9 rfl ?_ | refine F4 _ rfl ?_)) (C8 (L:=[(820,_),(821,_)]) ⟨rfl,rfl,trivial⟩ (by repeat (first | exact C0 | refine C4 rfl ?_ | refine D9 hf3 ?_ | refine L0 _ rfl ?_ | refine L8 hf3 ?_)))
  rintro ⟨f,c,s1,sx⟩ ⟨hf,hc',hA⟩
  dsimp only at hf hc' hA ⊢
  have hf0:f≠0:=fun e=>by rw [e] at hA;cases hA
  obtain ⟨f,rfl⟩:∃g,f=g+1:=⟨f - 1,by omega⟩
  refine k2 (k2 (A2 (A3 J J (A5 (V4 J J) J (A4 ?_)))));refine k1 ?_;refine B1 rfl (fun ht=>?_) (fun ht=>?_)
  ·have hcp:0 < c:=by have:=A0 ht;omega
   obtain ⟨c,rfl⟩:∃g,c=g+1:=⟨c - 1,by omega⟩
   obtain ⟨kc,hkc⟩:∃kc,kc=n.Kids[c]'(by omega):=⟨_,rfl⟩
   have hkv2:n.Kids[c]?=some kc:=by rw [hkc];exact K82 (by omega)
   have hkv3:n.Kids[(((c+1:Nat):Int) - 1).toNat]?=some kc:=by rw [show (((c+1:Nat):Int) - 1).toNat=c by omega];exact hkv2
   rw [taker hkv2,catB] at hA
   cases hbk:V3 ns w f kc s1 sx with
   | none=>rw [hbk] at hA;cases hA
   | some y =>
    obtain ⟨sy,b⟩:=y
    rw [hbk] at hA
    dsimp only at hA
    have hm2:=(j4 ns w f).2.1 _ _ _ _ _ hA
    refine k5 (k1 (k2 (k3 (A2 (A3 J J (A5 (B7 J) J (A5 (B0 J J) J (A3 J J (A5 (B2 J (.pure _ _ _ _) J (by omega) hkv3) J (A5 (B0 J J) J (A3 J J (G8 (IH f (by omega) kc s1 sx sy b hbk (hks kc (K93 hkv2)) (by omega) J J hf3) J J J ?_))))))))))));rintro _ _ ⟨rfl,rfl⟩;refine A6 J J (A4 ?_);refine k4 (k1 (A2 (A3 J J (A5 (L7 J J (by omega)) J (A6 J J (A4 ?_))))));refine k1 ?_;refine ⟨(f,c,b,sy),⟨by dsimp only;omega,by dsimp only;omega,hA⟩,by dsimp only;omega,?_⟩
    dsimp only
    rw [show ((c:Int) - 1)=(((c+1:Nat):Int) - 1 - 1) by omega]
    exact K57 ⟨le1 rfl,le1 rfl,le1 rfl,le1 rfl,trivial⟩ (D5 hH) (by repeat (first | exact A8 | refine tail_drop rfl ?_ | refine A9 rfl ?_ | refine F4 _ rfl ?_)) (C8 (L:=[(820,_),(821,_)]) ⟨rfl,rfl,trivial⟩ (by repeat (first | exact C0 | refine C4 rfl ?_ | refine D9 hf3 ?_ | refine L0 _ rfl ?_ | refine L8 hf3 ?_)))
  have hc0:c=0:=by have:=A1 ht;omega
  subst hc0
  rw [List.take_zero,List.reverse_nil,catB] at hA
  cases hA
  refine k6 (k2 (A2 (A3 J J (A6 J J (A4 ?_)))));refine k1 (k10 ?_)
  exact E1 (I1 rfl rfl) (by repeat (first | exact A8 | refine tail_drop rfl ?_ | refine A9 rfl ?_ | refine F4 _ rfl ?_)) (C8 (L:=[(820,_),(821,_)]) ⟨rfl,rfl,trivial⟩ (by repeat (first | exact C0 | refine C4 rfl ?_ | refine D9 hf3 ?_ | refine L0 _ rfl ?_ | refine L8 hf3 ?_))) ⟨rfl,rfl⟩
 have hK4:=A1 ht
 rw [if_neg hK4] at hB
 refine k2 (A2 (A5 (F7 J J) J (A6 J J (A4 ?_))));refine k1 ?_;refine B1 rfl (fun ht=>?_) (fun ht=>?_)
 ·have hK:=A0 ht
  rw [if_pos hK] at hB
  cases hkr:n.Kids.reverse with
  | nil=>rw [hkr] at hB;cases hB
  | cons k kr =>
   rw [hkr] at hB
   dsimp only at hB
   cases hbk:V3 ns w F k next st with
   | none=>rw [hbk] at hB;cases hB
   | some y =>
    obtain ⟨st1,s0⟩:=y
    rw [hbk] at hB
    dsimp only at hB
    refine k2 (A2 (A3 J J (A5 (B7 J) J (A5 (B0 J J) J (A3 J J (G8 (I57 IH n.Kids next st st1 st' s0 r k kr hkr hks hkn hbk hB hl J J hf3) J J J ?_))))));rintro _ _ ⟨rfl,rfl⟩;refine A6 J J (A4 ?_);refine k1 (k10 (k12 (k11 ?_)))
    exact E1 (I1 rfl rfl) (by repeat (first | exact A8 | refine tail_drop rfl ?_ | refine A9 rfl ?_ | refine F4 _ rfl ?_)) (C8 (L:=[(820,_),(821,_)]) ⟨rfl,rfl,trivial⟩ (by repeat (first | exact C0 | refine C4 rfl ?_ | refine D9 hf3 ?_ | refine L0 _ rfl ?_ | refine L8 hf3 ?_))) ⟨rfl,rfl⟩
 have hK5:=A1 ht
 rw [if_neg hK5] at hB
 refine k2 (A2 (A5 (F7 J J) J (A6 J J (A4 ?_))));refine k1 ?_;refine B1 rfl (fun ht=>?_) (fun ht=>?_)
 ·have hK:=A0 ht
  rw [if_pos hK] at hB
  obtain ⟨hk1,hmm⟩:n.Kids.length=1∧0≤n.Min∧n.Min≤100∧(n.Max = -1∨n.Min≤n.Max∧n.Max≤100):=by omega
  obtain ⟨kid,hkid⟩:∃kid,n.Kids=[kid]:=by
   match hq:n.Kids,hk1 with
   | [kid],_=>exact ⟨kid,rfl⟩
  have hkd:n.Kids.getD 0 0=kid:=by rw [hkid];rfl
  have hk0:n.Kids[(0:Int).toNat]?=some kid:=by rw [hkid];rfl
  have hki2:=hks kid (K93 hk0)
  rw [hkd] at hB
  obtain ⟨st0,nx,stM,nM,hlo,hhi,hmx,hmn⟩:∃(st0:List AL.State) (nx:Int) (stM:List AL.State) (nM:Int),(n.Max < 0→∃sa a,V3 ns w F kid st.length (st++[⟨1,⟨0,0,0,0⟩,0,next⟩])=some (sa,a)∧st0=sa.set st.length { (sa.getD st.length x4) with Next:=a }∧nx=st.length)∧(¬n.Max < 0→st0=st∧nx=next)∧F28 ns w F kid (n.Max - n.Min).toNat nx nx st0=some (stM,nM)∧F29 ns w F kid n.Min.toNat nM stM=some (st',r):=by
   by_cases hM:n.Max < 0
   ·rw [if_pos hM] at hB
    cases hbk:V3 ns w F kid st.length (st++[⟨1,⟨0,0,0,0⟩,0,next⟩]) with
    | none=>erw [hbk] at hB;cases hB
    | some y =>
     obtain ⟨sa,a⟩:=y
     erw [hbk] at hB
     dsimp only at hB
     have hF:F≠0:=fun e=>by rw [e] at hbk;cases hbk
     obtain ⟨F',rfl⟩:∃g,F=g+1:=⟨F - 1,by omega⟩
     refine ⟨_,_,_,_,fun _=>⟨sa,a,rfl,rfl,rfl⟩,fun h=>absurd hM h,?_,hB⟩
     rw [show (n.Max - n.Min).toNat=0 by omega]
     rfl
   ·rw [if_neg hM] at hB
    cases hbk:F28 ns w F kid (n.Max - n.Min).toNat next next st with
    | none=>rw [hbk] at hB;cases hB
    | some y =>
     obtain ⟨sa,a⟩:=y
     rw [hbk] at hB
     dsimp only at hB
     exact ⟨_,_,_,_,fun h=>absurd h hM,fun _=>⟨rfl,rfl⟩,hbk,hB⟩
  refine k2 (A2 (A3 J J (A5 (E2 J J) J (A3 J J (G8 (H50 IH n kid next st st0 stM st' nx nM r hk0 hki2 hmm hlo hhi hmx hmn hl J J hf3) J J J ?_)))));rintro _ _ ⟨rfl,rfl⟩;refine A6 J J (A4 ?_);refine k1 (k10 (k12 (k11 ?_)))
  exact E1 (I1 rfl rfl) (by repeat (first | exact A8 | refine tail_drop rfl ?_ | refine A9 rfl ?_ | refine F4 _ rfl ?_)) (C8 (L:=[(820,_),(821,_)]) ⟨rfl,rfl,trivial⟩ (by repeat (first | exact C0 | refine C4 rfl ?_ | refine D9 hf3 ?_ | refine L0 _ rfl ?_ | refine L8 hf3 ?_))) ⟨rfl,rfl⟩
 have hK6:=A1 ht
 rw [if_neg hK6] at hB
 cases hB
 refine k5 (k2 (A2 (A3 J J (A6 J J (A4 ?_)))));refine k1 (k10 ?_)
 exact E1 (I1 rfl rfl) (by repeat (first | exact A8 | refine tail_drop rfl ?_ | refine A9 rfl ?_ | refine F4 _ rfl ?_)) (C8 (L:=[(820,_),(821,_)]) ⟨rfl,rfl,trivial⟩ (by repeat (first | exact C0 | refine C4 rfl ?_ | refine D9 hf3 ?_ | refine L0 _ rfl ?_ | refine L8 hf3 ?_))) ⟨rfl,rfl⟩
theorem C72 {ns:List AL.Node} {w:List Int} (hc:B60 ns=0) (hkl:∀n∈ns,n.Kids.length≤4000) (hwl:w.length=ns.length):∀F,∀g,g≤F→E92 ns w g
 | 0,g,hg=>by
  obtain rfl:g=0:=by omega
  intro i next st st' r hB
  cases hB
 | F+1,g,hg=>by
  rcases Nat.lt_or_ge g (F+1) with h | h
  ·exact C72 hc hkl hwl F g (by omega)
  ·obtain rfl:g=F+1:=by omega
   exact I58 hc hkl hwl (C72 hc hkl hwl F)
set_option maxHeartbeats 1000000
theorem C73 (L:List AL.Node) (st:List AL.State) (r:Int) (F:Nat) (hc:B60 L=0) (hkl:∀n∈L,n.Kids.length≤4000) (hw:topW L≤4000) (hb:V3 L (Y7 L) F ((L.length:Int) - 1) 0 [⟨4,⟨0,0,0,0⟩,0,0⟩]=some (st,r)) (hst:st.length≤20000) :
  FnOk Tryz.prog 38 [s8 L] (fun rs=>rs=[A52 ⟨st,r⟩,F2 0]):=by
 obtain ⟨hl1,hl2,hk⟩:=A44 hc
 have hwl:(Y7 L).length=L.length:=by rw [←G53];exact G52 L _
 refine FnOk.intro Tryz.func38 (by decide) J J J J ?_
 refine k2 (A2 (D1 (I4 2 J) J (A6 J J (A4 ?_))));refine k1 (k2 (A2 (A3 J J (D7 (H44 L hc hkl) J J J ?_))));rintro _ rfl;refine A3 J J (H0 J J J (H0 J J J (A6 J J (A6 J J (A4 ?_)))));refine k1 (k2 (k3 (k2 (A2 (A3 J J (A5 (R2 J J) J (A6 J J (A4 ?_))))))));refine k1 ?_;refine B1 rfl (fun ht=>?_) (fun ht=>?_)
 ·cases ht
 refine k2 (A2 (A3 J J (A5 (N4 J J) J (A6 J J (A4 ?_)))));refine k1 ?_;refine B1 rfl (fun ht=>?_) (fun ht=>?_)
 ·have:=A0 ht
  omega
 refine k5 (k2 (A2 (A3 J J (A3 J J (D7 (D89 L hc hkl) J J J ?_)))));rintro _ rfl;refine A5 (J4 J) J (D1 (i6 820 J J J) J (A6 J J (A4 ?_)));refine k1 (D8 (K61 821 AL.State 7 A51 117 (kb:=820) (o:=2) rfl rfl rfl) ?_)
 refine k2 (A2 (A3 J J (A5 (J4 J) J (G8 (w7 [] ⟨4,⟨0,0,0,0⟩,0,0⟩ (by decide) J J) J J J ?_))));rintro _ _ ⟨rfl,rfl⟩;refine A6 J J (A4 ?_);refine k1 (k2 (A2 (A3 J J (A3 J J (E5 J J (A5 (L7 J J (by omega)) J (A3 J J (G8 (C72 hc hkl hwl F F (Nat.le_refl _) ((L.length:Int) - 1) 0 [⟨4,⟨0,0,0,0⟩,0,0⟩] st r hb ⟨by omega,by omega⟩ hst J J J) J J J ?_))))))));rintro _ _ ⟨rfl,rfl⟩;refine A6 J J (A4 ?_);refine k1 (k2 (A2 (A3 J J (A5 (B4 J) J (A5 (A7 J) J (G7 J J J J (A3 J J (A5 (J4 J) J (H1 (C1 TySz.out J J J J J J) (A6 J J (A4 ?_)))))))))));refine k1 (D8 (Sees.freezeG (k:=821) (α:=AL.State) (ec:=7) (c:=A51) (xs:=st) (e:=117) rfl rfl) ?_)
 refine k10 ?_
 exact B6 (rs:=[A52 ⟨st,r⟩,F2 0]) (J03 rfl rfl rfl rfl rfl rfl rfl) rfl
theorem B96 (p:Str) (L:List AL.Node) (A:AL.Auto) (hp:FnOk Tryz.prog 37 [J6 p] (fun rs=>rs=[s8 L,F2 0])) (hb:FnOk Tryz.prog 38 [s8 L] (fun rs=>rs=[A52 A,F2 0])) :
  FnOk Tryz.prog 24 [J6 p] (fun rs=>rs=[A52 A,F2 0]):=by
 refine FnOk.intro Tryz.func24 (by decide) J J J J ?_
 refine k2 (A2 (D1 (I4 2 J) J (A6 J J (A4 ?_))));refine k1 (k2 (A2 (A3 J J (D7 (hp) J J J ?_))));rintro _ rfl;refine A3 J J (H0 J J J (H0 J J J (A6 J J (A6 J J (A4 ?_)))));refine k1 (k2 (k2 (A2 (A3 J J (A5 (R2 J J) J (A4 ?_))))));refine k1 ?_;refine B1 rfl (fun ht=>?_) (fun ht=>?_)
 ·cases ht
 refine k5 (k1 (k2 (A2 (A3 J J (D7 (hb) J J J ?_)))));rintro _ rfl;refine H0 J J J (H0 J J J (H1 (C1 TySz.out J J J J J J) (A6 J J (A4 ?_))));refine k1 (k10 ?_)
 exact B6 (rs:=[A52 A,F2 0]) (J03 rfl rfl rfl rfl rfl rfl rfl) rfl
set_option maxHeartbeats 1000000
abbrev E93 (A:AL.Auto):Unit→Nat→Cell:=fun _ j=>[Cell.list AL.State 7 A51 A.States,Cell.v (.int .i64 A.Start)].getD j (.v undef)
theorem I59 (A:AL.Auto) (hA:AG A):FnOk Tryz.prog 78 [A52 A] (fun rs=>rs=[F2 0]):=by
 obtain ⟨hl1,hl2⟩:=hA.len
 have hst:=hA.start
 obtain ⟨n,hn⟩:∃n,n=A.States.length:=⟨_,rfl⟩
 have hgd:=hA.good
 rw [←hn] at hl1 hl2 hst hgd
 refine FnOk.intro Tryz.func78 (by decide) J J J J ?_
 refine k2 (A2 (A5 (o9 J J J) J (A6 J J (A4 ?_))));refine k1 (k2 (A2 (A5 (B7 J) J (A5 (B0 J J) J (E5 J J (D1 (I4 3 J) J (H1 (C1 TySz.out J J J J J J) (A4 ?_))))))));refine k1 (k2 (A2 (A5 (l4 J J) J (A6 J J (A4 ?_)))));refine k1 (k2 (k2 ?_))
 have hd1:decide ((n:Int) < 1)=false:=decide_eq_false (by omega)
 have hd2:decide ((8000:Int) < n)=false:=decide_eq_false (by omega)
 have hd3:decide (0≤A.Start∧A.Start < (n:Int))=true:=decide_eq_true hst
 rw [←hn]
 refine A2 (G7 J J J J (F3 J J J (A3 J J (H4 J J J hd1 (G7 J J J J (H4 J J J hd1 (A5 (N4 J J) J (A5 (S6 J (hd1) J) J (A3 J J (H4 J J J hd2 (A3 J J (H4 J J J hd2 (A5 (B7 J) J (H4 J J J hd2 (A5 (B0 J J) J (H4 J J J hd2 (A85 (B95 A.Start n J) J J J J ?_)))))))))))))))));rintro _ _ ⟨rfl,rfl⟩;refine H4 J J J hd2 (A5 (Q8 J) J (A5 (S6 J (hd2) J) J (A4 ?_)))
 rw [hd3]
 refine k1 ?_;refine B1 rfl (fun ht=>?_) (fun ht=>?_)
 ·cases ht
 refine k5 (k1 (k2 (k2 (A2 (A5 (B7 J) J (A5 (B0 J J) J (E5 J J (A3 J J (A4 ?_)))))))));refine k1 (k3 (D2 (X:=Nat) (fun i=>([(3,.s (.one (.ref 3 0))),(4,.s (.one (.clo 111 [] [(3,0)]))),(26,.s (J43 A.States).s1),(27,C3 n),(28,C3 i)],[(3,.box [.p (.v (.int .i64 n))])])) (fun i=>i≤n) (fun i=>n - i) 0 (Nat.zero_le _) (Sees.of ⟨le1 rfl,le1 rfl,le1 rfl,leE J (by first | (simp;done) | (simp;omega)),le1 rfl,trivial⟩ ⟨rfl,trivial⟩) ?_))
 intro i hi
 dsimp only at hi ⊢
 refine k2 (A2 (F3 J J J (A4 ?_)));refine k1 (k2 ?_);refine B1 rfl (fun ht=>?_) (fun ht=>?_)
 ·have hlt:i < n:=Int.ofNat_lt.1 (A0 ht)
  obtain ⟨q,hq⟩:∃q,q=A.States[i]'(by omega):=⟨_,rfl⟩
  have hv:A.States[i]?=some q:=by rw [hq];exact K82 (by omega)
  have hK:=x6 (hgd q (K93 hv))
  obtain ⟨b,hb⟩:∃b,b=decide (0≤q.Next∧q.Next < (n:Int)):=⟨_,rfl⟩
  have hbt:¬q.Kind=4→b=true:=fun h4=>by rw [hb];exact decide_eq_true (by omega)
  refine k5 (k1 (k2 (k3 (k2 (A2 (A5 (B2 J (.pure _ _ _ _) J (by omega) hv) J (A5 (E2 J J) J (D1 (I4 6 J) J (H1 (C1 TySz.out J J J J J J) (A4 ?_))))))))));refine k1 (k2 (A2 (A3 J J (A5 (A7 J) J (G7 J J J J (A85 (B95 q.Next n J) J J J J ?_))))));rintro _ _ ⟨rfl,rfl⟩;refine A6 J J (A4 ?_)
  rw [←hb]
  refine k1 (k2 (k2 (A2 (A5 (A7 J) J (G7 J J J J (A4 ?_))))));refine k1 ?_;refine C20 [(3,.s (.one (.ref 3 0))),(4,.s (.one (.clo 111 [] [(3,0)]))),(26,.s (J43 A.States).s1),(27,C3 n),(28,C3 i),(7,P6 true)] [(3,.box [.p (.v (.int .i64 n))])] ?_ ?_
  ·refine k3 (k2 (k2 (A2 (A5 (F7 J J) J (A6 J J (A4 ?_))))));refine k1 ?_;refine B1 rfl (fun ht=>?_) (fun ht=>?_)
   ·rw [hbt (by have:=A0 ht;omega)]
    refine k5 (k1 ?_);refine B1 rfl (fun ht=>?_) (fun ht=>?_)
    ·refine k5 (k4 (k1 ?_))
     exact Sees.of ⟨le1 rfl,le1 rfl,le1 rfl,le1 rfl,le1 rfl,le1 rfl,trivial⟩ ⟨rfl,trivial⟩
    ·exact absurd (A0 (by assumption)) (A1 ht)
   have hK0:¬q.Kind=0:=A1 ht
   refine k2 (A2 (A5 (F7 J J) J (A6 J J (A4 ?_))));refine k1 ?_;refine B1 rfl (fun ht=>?_) (fun ht=>?_)
   ·rw [hbt (by have:=A0 ht;omega)]
    refine k5 (k1 ?_);refine B1 rfl (fun ht=>?_) (fun ht=>?_)
    ·refine k5 (k4 (k1 ?_))
     exact Sees.of ⟨le1 rfl,le1 rfl,le1 rfl,le1 rfl,le1 rfl,le1 rfl,trivial⟩ ⟨rfl,trivial⟩
    ·exact absurd (A0 (by assumption)) (A1 ht)
   have hK2:¬q.Kind=2:=A1 ht
   skip
   refine A2 (A5 (F7 J J) J (A6 J J (A4 ?_)));refine k1 ?_;refine B1 rfl (fun ht=>?_) (fun ht=>?_)
   ·rw [hbt (by have:=A0 ht;omega)]
    refine k5 (k4 (k1 ?_))
    exact Sees.of ⟨le1 rfl,le1 rfl,le1 rfl,le1 rfl,le1 rfl,le1 rfl,trivial⟩ ⟨rfl,trivial⟩
   have hK3:¬q.Kind=3:=A1 ht
   refine k2 (A2 (A5 (F7 J J) J (A6 J J (A4 ?_))));refine k1 ?_;refine B1 rfl (fun ht=>?_) (fun ht=>?_)
   ·skip
    have hK1:q.Kind=1:=A0 ht
    have hO:decide (0≤q.Other∧q.Other < (n:Int))=true:=decide_eq_true (by omega)
    rw [hbt (by omega)]
    refine A2 (A3 J J (A3 J J (H4 J J J J (A3 J J (H4 J J J J (A5 (A7 J) J (H4 J J J J (G7 J J J J (H4 J J J J (A85 (B95 q.Other n J) J J J J ?_))))))))));rintro _ _ ⟨rfl,rfl⟩;refine K4 J J ?_;refine A6 J J (A4 ?_)
    rw [hO]
    refine k4 (k1 ?_)
    exact Sees.of ⟨le1 rfl,le1 rfl,le1 rfl,le1 rfl,le1 rfl,le1 rfl,trivial⟩ ⟨rfl,trivial⟩
   have hK1:¬q.Kind=1:=A1 ht
   refine k2 (A2 (A5 (F7 J J) J (A6 J J (A4 ?_))));refine k1 ?_;refine B1 rfl (fun ht=>?_) (fun ht=>?_)
   ·skip
    refine A2 (A6 J J (A4 ?_));refine k4 (k1 ?_)
    exact Sees.of ⟨le1 rfl,le1 rfl,le1 rfl,le1 rfl,le1 rfl,le1 rfl,trivial⟩ ⟨rfl,trivial⟩
   have hK4:¬q.Kind=4:=A1 ht
   exfalso
   omega
  refine k2 (A2 (A3 J J (A5 (Q8 J) J (A4 ?_))));refine k1 ?_;refine B1 rfl (fun ht=>?_) (fun ht=>?_)
  ·cases ht
  refine k5 (k4 (k1 (A2 (D6 J J J (A3 J J (A4 ?_))))));refine k1 ?_
  exact ⟨i+1,Nat.succ_le_of_lt hlt,Nat.sub_lt_sub_left hlt (Nat.lt_succ_self i),Sees.of ⟨le1 rfl,le1 rfl,le1 rfl,le1 rfl,le1 rfl,trivial⟩ ⟨rfl,trivial⟩⟩
 refine k6 (k2 (A2 (A6 J J (A4 ?_))));refine k1 (k10 ?_)
 exact B6 (rs:=[F2 0]) (H3 rfl rfl rfl) rfl
set_option maxHeartbeats 1000000
abbrev macG (A:AL.Auto) (s:Str) (a:Nat) (x y:TC):Ob:=.box [.p (.list AL.State 7 A51 A.States),.p (.v (.int .i64 A.Start)),.p (.v (.string ⟨s.toArray⟩)),.p (.v (.int .i64 a)),x,y]
abbrev A45 (A:AL.Auto) (s:Str) (a:Nat):Ob:=macG A s a (.mut 831) (.mut 832)
abbrev A14:S1:=.one (.ref 830 0)
abbrev thO (l:List AL.Thread):Ob:=.grow 186 AL.Thread 2 d7 l
abbrev snO (l:List Bool):Ob:=.arr Bool 1 A12 l
abbrev pThr (t:AL.Thread):PV:=.agg [.v (.int .i64 t.state),.v (.int .i64 t.from_)]
theorem I60 (A:AL.Auto) (s:Str) (hA:AG A):AL.Met Tryz.prog 112 [(A52 A).s1,.one (.p (.v (.string ⟨s.toArray⟩))),M7 0] [] [] []
  (fun rs ob'=>rs=[A14]∧ob'=[(830,macG A s 0 (.p (.v (.slice none 0 0))) (.mut 832)),(832,snO (List.replicate A.States.length false))]):=by
 have h6:=hA.len
 refine AL.Met.intro Tryz.func112 (by decide) J J J ?_
 refine k2 (A2 (A5 (o9 J J J) J (A6 J J (A4 ?_))));refine k1 (k2 (P3 [8,6] [[],[6],[8,6]] [(6,([832],[])),(8,([830],[]))] [(0,[]),(1,[]),(2,[]),(3,[]),(4,[]),(5,[]),(6,[]),(7,[6]),(8,[6]),(9,[8,6])] [(0,[6]),(1,[6]),(2,[6])] (by kernel_rfl) (by kernel_rfl) (E9 J J (by kernel_rfl) J J (E2 J J) (E9 J J (by kernel_rfl) J J (B9 J J) (E9 J J (by kernel_rfl) J J (B9 J J) (E9 J J (by kernel_rfl) J J (B7 J) (E9 J J (by kernel_rfl) J J (B0 J J) (E9 J J (by kernel_rfl) J J (Z2 J (.pure _ _ _ _)) (Y2 J J (by kernel_rfl) J J (E35 (fun frc hU hk=>o5 832 Bool A12 false (S2 hU J) (S2 hU J) (by (first | omega | decide)) (by (first | omega | decide)) (fun _=>by first | exact ⟨⟨rfl,rfl⟩,trivial⟩ | exact ⟨H8 _ _ _,trivial⟩ | exact ⟨H8 _ _ _,⟨rfl,rfl⟩,H8 _ _ _,trivial⟩) (by rw [hk];rfl))) J ?_)))))))));refine E9 J J (by kernel_rfl) J J (J4 J) (Y2 J J (by kernel_rfl) J J (E35 (fun frc hU hk=>i6 830 (S2 hU J) J (by rw [hk];rfl))) J ?_);refine E9 J J (by kernel_rfl) J J (I2 J J) ?_;refine F73 (by kernel_rfl) rfl ?_ ?_
 ·refine O1 J J (by kernel_rfl) J J (E2 J J) (O1 J J (by kernel_rfl) J J (B9 J J) (O1 J J (by kernel_rfl) J J (B9 J J) ?_));exact B84
 refine k1 (k10 ?_)
 exact E1 (I1 rfl rfl) (by repeat (first | exact A8 | refine tail_drop rfl ?_ | refine A9 rfl ?_)) (fun _ _ h=>h) ⟨rfl,by rw [K84];rfl⟩
theorem F92 {gf:Fr} {ob:Obs} (A:AL.Auto) (s:Str) (hA:AG A) (a:Nat) (q fr:Int) (m0 R:Mach) (hm0:MG A m0) (hq:0≤q∧q < A.States.length) (hR0:D31 A s a ⟨q,fr⟩ m0=R)
  (h0:B8 ob 830=some (A45 A s a)) (h1:B8 ob 831=some (thO m0.1)) (h2:B8 ob 832=some (snO m0.2)) (h3:B8 ob 834=none) :
  AL.Met Tryz.prog 113 [A14,(pThr ⟨q,fr⟩).s1] gf ob [831,834] (fun rs ob'=>rs=[]∧ob'=(830,A45 A s a)::(831,thO R.1)::(832,snO R.2)::F0 [831,834] ob):=by
 obtain ⟨hn1,hn2⟩:=hA.len
 refine AL.Met.introH Tryz.func113 (by decide) rfl rfl rfl (fun hH=>?_)
 refine D8 (K58 831 (l:=[(0,.s A14),(1,.s (pThr ⟨q,fr⟩).s1)]) (L:=[(830,_),(831,_),(832,_)]) ⟨le1 rfl,le1 rfl,trivial⟩ hH (by repeat (first | exact A8 | refine A9 rfl ?_)) ⟨h0,h1,h2,trivial⟩) ?_
 refine D8 (Sees.forget 834) ?_
 refine D8 (K57 (gf':=C6 [831,834] gf) (l:=[(0,.s A14),(1,.s (pThr ⟨q,fr⟩).s1)]) (ob':=[(830,A45 A s a),(831,thO m0.1),(832,snO m0.2)]++F0 [831,834] ob) ⟨le1 rfl,le1 rfl,trivial⟩ (D5 hH) (by repeat (first | exact A8 | refine tail_drop rfl ?_ | refine A9 rfl ?_ | refine F4 _ rfl ?_)) (C8 (L:=[(830,_),(831,_),(832,_)]) ⟨rfl,rfl,rfl,trivial⟩ (by repeat (first | exact C0 | refine C4 rfl ?_)))) ?_
 have hf3:B8 (F0 [831,834] ob) 834=none:=L6 h3
 refine k2 (A2 (A5 (o9 J J J) J (A4 ?_)));refine k1 (k2 (A2 (A5 (B7 J) J (A5 (B0 J J) J (D1 (J50 834 (c:=E4) (ys:=[q]) (E0 J J J J G5) J J J hf3 J) J (A6 J J (A4 ?_)))))));refine k1 (k3 ?_);refine D2 (X:=Nat × List Int × Mach) (fun x=>([(0,.s A14),(3,.s (.one (.eref Unit 2 (fun _ j=>[Cell.v (.int .i64 q),Cell.v (.int .i64 fr)].getD j (.v undef)) () 0))),(4,.s (.one (.mut 834)))]++C6 [831,834] gf,[(830,A45 A s a),(831,thO x.2.2.1),(832,snO x.2.2.2),(834,.grow 3 Int 1 E4 x.2.1)]++F0 [831,834] ob)) (fun x=>muA x.2.1 x.2.2 < x.1∧A22 A s a fr x.1 x.2.1 x.2.2=R∧muA x.2.1 x.2.2≤24001∧MG A x.2.2∧∀k∈x.2.1,0≤k∧k < A.States.length) (fun x=>muA x.2.1 x.2.2) (3*A.States.length+2,[q],m0) ?_ ?_ ?_
 ·have h6:=hm0.cnt
  refine ⟨?_,hR0,?_,hm0,fun k hk=>by rw [List.mem_singleton.1 hk];exact hq⟩
  ·unfold muA;simp only [List.length_singleton];omega
  ·unfold muA;simp only [List.length_singleton];omega
 ·exact K57 ⟨le1 rfl,le1 rfl,le1 rfl,trivial⟩ (D5 hH) (by repeat (first | exact A8 | refine tail_drop rfl ?_ | refine A9 rfl ?_ | refine F4 _ rfl ?_)) (C8 (L:=[(830,_),(831,_),(832,_),(834,_)]) ⟨rfl,rfl,rfl,rfl,trivial⟩ (by repeat (first | exact C0 | refine C4 rfl ?_ | refine L0 _ rfl ?_)))
 rintro ⟨f,opn,m⟩ ⟨hf,hR,hmu,hm,hop⟩
 dsimp only at hf hR hmu hm hop ⊢
 have hol:opn.length≤24001:=by unfold muA at hmu;omega
 have hcn:=hm.cnt
 have hsn:=hm.sl
 refine k2 (k2 (A2 (A3 J J (A5 (V5 J J) J (A5 (N4 J J) J (A4 ?_))))));refine k1 ?_;refine B1 rfl (fun ht=>?_) (fun ht=>?_)
 rotate_left
 ·have hy0:opn=[]:=List.length_eq_zero_iff.1 (by have:=A1 ht;omega)
  rw [hy0,G16] at hR
  rw [hR]
  refine k6 (k7 (k7 (k8 J ?_)))
  exact R1 (A59 rfl) (by repeat (first | exact A8 | refine tail_drop rfl ?_ | refine A9 rfl ?_ | refine F4 _ rfl ?_)) (C8 (L:=[(830,_),(831,_),(832,_)]) ⟨rfl,rfl,rfl,trivial⟩ (by repeat (first | exact C0 | refine C4 rfl ?_ | refine D9 hf3 ?_ | refine L0 _ rfl ?_))) ⟨rfl,rfl⟩
 have hpos:0 < opn.length:=by have:=A0 ht;omega
 obtain ⟨i,hi⟩:∃i,opn.getLast?=some i:=by
  cases h:opn.getLast? with
  | none=>rw [List.getLast?_eq_none_iff] at h;rw [h] at hpos;cases hpos
  | some i=>exact ⟨i,rfl⟩
 obtain ⟨_,hig,him⟩:=D35 hi
 obtain ⟨g3,g4⟩:=hop i him
 obtain ⟨f',opn',m',hff,hR',hf',hmu',hm',hop',hseen,hnew⟩:=E14 s hA hm hop hf hR hi
 have hvl:opn[((opn.length:Int) - 1).toNat]?=some i:=by rw [show ((opn.length:Int) - 1).toNat=opn.length - 1 by omega];exact hig
 have hcut:opn.take ((opn.length:Int) - 1).toNat=opn.dropLast:=by rw [List.dropLast_eq_take];congr 1;omega
 obtain ⟨r,hr⟩:∃r,r=opn.dropLast:=⟨_,rfl⟩
 have hrl:r.length≤24001:=by rw [hr,List.length_dropLast];omega
 rw [←hr] at hcut hseen hnew
 obtain ⟨b,hb⟩:∃b,b=J0 m.2 i.toNat:=⟨_,rfl⟩
 have hvb:m.2[i.toNat]?=some b:=by rw [hb];exact I94 (by rw [hm.sl];omega)
 rw [←hb] at hseen hnew
 have hvs:=D33 (A:=A) ⟨g3,g4⟩
 refine k5 (k1 (k3 (k2 (A2 (A3 J J (A3 J J (A5 (V5 J J) J (A5 (L7 J J (by omega)) J (A5 (H6 J J J (by omega) (by omega)) J (A5 (A02 J J hvl J) J (A6 J J (A4 ?_))))))))))));refine k1 (k2 (A2 (A3 J J (A3 J J (A5 (V5 J J) J (A5 (L7 J J (by omega)) J (D1 (A64 J J J (by omega) (by omega) J) J (A6 J J (A4 ?_)))))))))
 rw [hcut]
 refine k1 (k2 (k2 (A2 (A3 J J (A5 (B4 J) J (A5 (A7 J) J (G7 J J J J (A3 J J (A5 (G4 J J J (by omega) (by omega)) J (A5 (N7 J J hvb J) J (A4 ?_)))))))))));refine k1 ?_;refine B1 rfl (fun ht=>?_) (fun ht=>?_)
 ·obtain ⟨e1,e2⟩:=hseen ht
  refine k6 (k7 (k8 J (k1 ?_)));refine ⟨(f',opn',m'),⟨hf',hR',(by dsimp only;omega),hm',hop'⟩,hmu',?_⟩
  rw [e1,e2]
  exact K57 ⟨le1 rfl,le1 rfl,le1 rfl,trivial⟩ (D5 hH) (by repeat (first | exact A8 | refine tail_drop rfl ?_ | refine A9 rfl ?_ | refine F4 _ rfl ?_)) (C8 (L:=[(830,_),(831,_),(832,_),(834,_)]) ⟨rfl,rfl,rfl,rfl,trivial⟩ (by repeat (first | exact C0 | refine C4 rfl ?_ | refine L0 _ rfl ?_)))
 obtain ⟨e1,e2⟩:=hnew ht
 have hA0:decide ((a:Int)=0)=decide (a=0):=decide_eq_decide.2 (by omega)
 have hA1:decide ((a:Int)=(s.length:Int))=decide (a=s.length):=decide_eq_decide.2 (by omega)
 rw [←hA0,←hA1] at e1
 obtain ⟨hsl,_⟩:=D34 hA ⟨g3,g4⟩ (decide ((a:Int)=0)) (decide ((a:Int)=(s.length:Int)))
 refine k5 (k1 (k2 (A2 (A3 J J (A5 (B4 J) J (A5 (A7 J) J (G7 J J J J (A3 J J (A5 (G4 J J J (by omega) (by omega)) J (H1 (K9 TySz.out J J (by omega) J J) (A4 ?_)))))))))));refine k1 (k2 ?_);refine D8 (K57 (gf':=C6 [831,834] gf) (l:=[(0,.s A14),(3,.s (.one (.eref Unit 2 (fun _ j=>[Cell.v (.int .i64 q),Cell.v (.int .i64 fr)].getD j (.v undef)) () 0))),(4,.s (.one (.mut 834))),(5,C3 i)]) (ob':=[(830,A45 A s a),(831,thO m.1),(832,snO (m.2.set i.toNat true)),(834,.grow 3 Int 1 E4 r)]++F0 [831,834] ob) ⟨le1 rfl,le1 rfl,le1 rfl,le1 rfl,trivial⟩ (D5 hH) (by repeat (first | exact A8 | refine tail_drop rfl ?_ | refine A9 rfl ?_ | refine F4 _ rfl ?_)) (C8 (L:=[(830,_),(831,_),(832,_),(834,_)]) ⟨rfl,rfl,rfl,rfl,trivial⟩ (by repeat (first | exact C0 | refine C4 rfl ?_ | refine L0 _ rfl ?_)))) ?_
 refine P3 [13,10] [[],[10],[13,10]] [(10,([831],[40])),(13,([],[]))] [(0,[]),(1,[]),(2,[]),(3,[]),(4,[]),(5,[]),(6,[]),(7,[]),(8,[]),(9,[]),(10,[]),(11,[10]),(12,[10]),(13,[10])] [(0,[10])] (by kernel_rfl) (by kernel_rfl) (E9 J J (by kernel_rfl) J J (B9 J J) (E9 J J (by kernel_rfl) J J (B9 J J) (E9 J J (by kernel_rfl) J J (B4 J) (E9 J J (by kernel_rfl) J J (A7 J) (E9 J J (by kernel_rfl) J J (C9 J J J) (E9 J J (by kernel_rfl) J J (B9 J J) (E9 J J (by kernel_rfl) J J (B7 J) (E9 J J (by kernel_rfl) J J (B0 J J) (E9 J J (by kernel_rfl) J J (J4 J) (E9 J J (by kernel_rfl) J J (C5 (c:=d7) (ys:=[⟨i,fr⟩]) (E0 J J J J G5) J J J) (Y2 J J (by kernel_rfl) J J (D48 (fun frc hU=>S5 (S2 hU J) J (S2 hU J) (.pure _ _ _ _) (by (simp only [K87,K90];omega)) J)) J (E9 J J (by kernel_rfl) J J (B4 J) (E9 J J (by kernel_rfl) J J (A7 J) (Y2 J J (by kernel_rfl) J J (A61 (fun frc hU=>C1 TySz.out (S2 hU J) J (S2 hU J) J J J)) J ?_))))))))))))));refine D49 (ks:=[831,834]) rfl (by kernel_rfl) rfl ?_ ?_
 ·refine O1 J J (by kernel_rfl) J J (B9 J J) ?_;exact B84
 refine k1 ?_;refine D8 (K57 (gf':=C6 [831,834] gf) (l:=[(0,.s A14),(3,.s (.one (.eref Unit 2 (fun _ j=>[Cell.v (.int .i64 q),Cell.v (.int .i64 fr)].getD j (.v undef)) () 0))),(4,.s (.one (.mut 834))),(5,C3 i)]) (ob':=[(830,A45 A s a),(831,thO (m.1++[⟨i,fr⟩])),(832,snO (m.2.set i.toNat true)),(834,.grow 3 Int 1 E4 r)]++F0 [831,834] ob) ⟨le1 rfl,le1 rfl,le1 rfl,le1 rfl,trivial⟩ (D5 hH) (by repeat (first | exact A8 | refine tail_drop rfl ?_ | refine A9 rfl ?_ | refine F4 _ rfl ?_)) (C8 (L:=[(830,_),(831,_),(832,_),(834,_)]) ⟨rfl,rfl,rfl,rfl,trivial⟩ (by repeat (first | exact C0 | refine C4 rfl ?_ | refine L0 _ rfl ?_)))) ?_
 refine E8 (by kernel_rfl) (by kernel_rfl) (E3 J J (E3 J J (B5 (B4 J) J J (B5 (A7 J) J J (B5 (A7 J) J J (B5 (C9 J J J) J J (E3 J J (B5 (B2 J (.pure _ _ _ _) J (by omega) hvs) J J (B5 (E2 J J) J J (E3 J J (B5 (B4 J) J J (B5 (A7 J) J J (B5 (C9 J J J) J J (B5 (F7 J J) J J (E3 J J (B5 (B4 J) J J (B5 (A7 J) J J (B5 (C9 J J J) J J (E3 J J (B5 (B4 J) J J (B5 (A7 J) J J (B5 (C9 J J J) J J (B5 (I6 J) J J ?_)))))))))))))))))))))));refine B5 (F7 J J) J J (B5 (O6 (K31 (T3 A i) (decide ((a:Int)=0)) (decide ((a:Int)=(s.length:Int)))) J J) J J (I11 (S5 J J J (.pure _ _ _ _) (by omega) J) J J (B5 (I2 J J) J J (P2 ?_))));refine k4 (k1 ?_);refine ⟨(f',opn',m'),⟨hf',hR',(by dsimp only;omega),hm',hop'⟩,hmu',?_⟩
 rw [e1,e2]
 exact K57 ⟨le1 rfl,le1 rfl,le1 rfl,trivial⟩ (D5 hH) (by repeat (first | exact A8 | refine tail_drop rfl ?_ | refine A9 rfl ?_ | refine F4 _ rfl ?_)) (C8 (L:=[(830,_),(831,_),(832,_),(834,_)]) ⟨rfl,rfl,rfl,rfl,trivial⟩ (by repeat (first | exact C0 | refine C4 rfl ?_ | refine L0 _ rfl ?_)))
set_option maxHeartbeats 1000000
theorem E94 {α:Type} {l:List α} {i:Nat} {x:α} (h:l[i]?=some x):l.take (i+1)=l.take i++[x]:=by rw [List.take_add_one,h];rfl
theorem E95 {gf:Fr} {ob:Obs} (A:AL.Auto) (s:Str) (a:Nat) (th:List AL.Thread) (sn:List Bool) (hst:∀t∈th,0≤t.state∧t.state < A.States.length) (hl:th.length≤8000) (h0:B8 ob 830=some (A45 A s a)) (h1:B8 ob 831=some (thO th)) (h2:B8 ob 832=some (snO sn)) (h3:B8 ob 835=none) :
  AL.Met Tryz.prog 114 [A14] gf ob [835] (fun rs ob'=>rs=[M7 (Q9 A th)]∧ob'=(830,A45 A s a)::(831,thO th)::(832,snO sn)::F0 [835] ob):=by
 refine AL.Met.introH Tryz.func114 (by decide) rfl rfl rfl (fun hH=>?_)
 refine D8 (K58 835 (l:=[(0,.s A14)]) (L:=[(830,_),(831,_),(832,_)]) ⟨le1 rfl,trivial⟩ hH (by repeat (first | exact A8 | refine A9 rfl ?_)) ⟨h0,h1,h2,trivial⟩) ?_
 refine D8 (K57 (gf':=C6 [835] gf) (l:=[(0,.s A14)]) (ob':=[(830,A45 A s a),(831,thO th),(832,snO sn)]++F0 [835] ob) ⟨le1 rfl,trivial⟩ (D5 hH) (by repeat (first | exact A8 | refine tail_drop rfl ?_ | refine A9 rfl ?_ | refine F4 _ rfl ?_)) (C8 (L:=[(830,_),(831,_),(832,_)]) ⟨rfl,rfl,rfl,trivial⟩ (by repeat (first | exact C0 | refine C4 rfl ?_)))) ?_
 have hf3:B8 (F0 [835] ob) 835=none:=L6 h3
 refine k2 (A2 (A6 J J (A4 ?_)));refine k1 (k2 (k2 (A2 (A3 J J (A5 (B4 J) J (A5 (A7 J) J (G7 J J J J (A5 (V5 J J) J (A3 J J (A4 ?_))))))))));refine k1 (k3 ?_);refine D2 (X:=Nat) (fun i=>([(0,.s A14),(8,.s (.one (.mut 831))),(9,C3 th.length),(10,C3 i)]++C6 [835] gf,[(830,A45 A s a),(831,thO th),(832,snO sn)]++F0 [835] ob)) (fun i=>i≤th.length∧Q9 A (th.drop i)=Q9 A th) (fun i=>th.length - i) 0 ⟨Nat.zero_le _,rfl⟩ ?_ ?_
 ·exact K57 ⟨le1 rfl,le1 rfl,le1 rfl,le1 rfl,trivial⟩ (D5 hH) (by repeat (first | exact A8 | refine tail_drop rfl ?_ | refine A9 rfl ?_ | refine F4 _ rfl ?_)) (C8 (L:=[(830,_),(831,_),(832,_)]) ⟨rfl,rfl,rfl,trivial⟩ (by repeat (first | exact C0 | refine C4 rfl ?_ | refine D9 hf3 ?_ | refine L0 _ rfl ?_)))
 rintro i ⟨hi,hA⟩
 dsimp only at hi hA ⊢
 refine k2 (A2 (F3 J J J (A4 ?_)));refine k1 (k2 ?_);refine B1 rfl (fun ht=>?_) (fun ht=>?_)
 rotate_left
 ·have hie:i=th.length:=by have:=A1 ht;omega
  rw [hie,List.drop_length] at hA
  rw [←hA]
  refine k6 (k2 (A2 (A6 J J (A4 ?_))));refine k1 (k10 ?_)
  exact E1 (I1 rfl rfl) (by repeat (first | exact A8 | refine tail_drop rfl ?_ | refine A9 rfl ?_ | refine F4 _ rfl ?_)) (C8 (L:=[(830,_),(831,_),(832,_)]) ⟨rfl,rfl,rfl,trivial⟩ (by repeat (first | exact C0 | refine C4 rfl ?_ | refine D9 hf3 ?_ | refine L0 _ rfl ?_))) ⟨rfl,rfl⟩
 have hlt:i < th.length:=by have:=A0 ht;omega
 obtain ⟨t,htd⟩:∃t,t=th[i]:=⟨_,rfl⟩
 have hv:th[i]?=some t:=by rw [htd];simp [hlt]
 obtain ⟨hs1,hs2⟩:=hst t (K93 hv)
 have hvs:=D33 (A:=A) ⟨hs1,hs2⟩
 rw [K91 hlt,←htd,Q9] at hA
 refine k5 (k1 (k2 (k3 (k2 (A2 (A5 (H6 J J J (by omega) (by omega)) J (A5 (A32 J J hv J) J (D1 (B27 835 hf3 (by decide)) J (H1 (C1 TySz.out J J J J J J) (A4 ?_))))))))));refine k1 (k2 (E8 (by kernel_rfl) (by kernel_rfl) (E3 J J (B5 (B4 J) J J (B5 (A7 J) J J (B5 (A7 J) J J (B5 (C9 J J J) J J (B5 (A7 J) J J (B5 (C9 J J J) J J (B5 (B2 J (.pure _ _ _ _) J (by omega) hvs) J J (B5 (B7 J) J J (B5 (B0 J J) J J (B5 (F7 J J) J J (P2 ?_))))))))))))));refine k1 ?_;refine B1 rfl (fun ht=>?_) (fun ht=>?_)
 ·have hK:(T3 A t.state).Kind=4:=A0 ht
  rw [if_pos hK] at hA
  rw [←hA]
  refine k2 (A2 (A5 (A7 J) J (G7 J J J J (A6 J J (A4 ?_)))));refine k1 (k10 (k12 (k11 (k11 (k12 (k11 ?_))))))
  exact E1 (I1 rfl rfl) (by repeat (first | exact A8 | refine tail_drop rfl ?_ | refine A9 rfl ?_ | refine F4 _ rfl ?_)) (C8 (L:=[(830,_),(831,_),(832,_)]) ⟨rfl,rfl,rfl,trivial⟩ (by repeat (first | exact C0 | refine C4 rfl ?_ | refine D9 hf3 ?_ | refine L0 _ rfl ?_))) ⟨rfl,rfl⟩
 have hK:¬(T3 A t.state).Kind=4:=A1 ht
 rw [if_neg hK] at hA
 refine k5 (k4 (k1 (A2 (D6 J J J (A3 J J (A4 ?_))))));refine k1 ?_
 exact ⟨i+1,⟨by omega,hA⟩,by omega,K57 ⟨le1 rfl,le1 rfl,le1 rfl,le1 rfl,trivial⟩ (D5 hH) (by repeat (first | exact A8 | refine tail_drop rfl ?_ | refine A9 rfl ?_ | refine F4 _ rfl ?_)) (C8 (L:=[(830,_),(831,_),(832,_)]) ⟨rfl,rfl,rfl,trivial⟩ (by repeat (first | exact C0 | refine C4 rfl ?_ | refine D9 hf3 ?_ | refine L0 _ rfl ?_)))⟩
theorem I61 {gf:Fr} {ob:Obs} (A:AL.Auto) (s:Str) (a:Nat) (fr:Int) (th:List AL.Thread) (sn:List Bool) (hl:th.length≤8000) (h0:B8 ob 830=some (A45 A s a)) (h1:B8 ob 831=some (thO th)) (h2:B8 ob 832=some (snO sn)) (h3:B8 ob 835=none) :
  AL.Met Tryz.prog 115 [A14,M7 fr] gf ob [831,835] (fun rs ob'=>rs=[]∧ob'=(830,A45 A s a)::(831,thO (A53 fr th))::(832,snO sn)::F0 [831,835] ob):=by
 refine AL.Met.introH Tryz.func115 (by decide) rfl rfl rfl (fun hH=>?_)
 refine D8 (K58 831 (l:=[(0,.s A14),(1,.s (M7 fr))]) (L:=[(830,_),(831,_),(832,_)]) ⟨le1 rfl,le1 rfl,trivial⟩ hH (by repeat (first | exact A8 | refine A9 rfl ?_)) ⟨h0,h1,h2,trivial⟩) ?_
 refine D8 (Sees.forget 835) ?_
 refine D8 (K57 (gf':=C6 [831,835] gf) (l:=[(0,.s A14),(1,.s (M7 fr))]) (ob':=[(830,A45 A s a),(831,thO th),(832,snO sn)]++F0 [831,835] ob) ⟨le1 rfl,le1 rfl,trivial⟩ (D5 hH) (by repeat (first | exact A8 | refine tail_drop rfl ?_ | refine A9 rfl ?_ | refine F4 _ rfl ?_)) (C8 (L:=[(830,_),(831,_),(832,_)]) ⟨rfl,rfl,rfl,trivial⟩ (by repeat (first | exact C0 | refine C4 rfl ?_)))) ?_
 have hf3:B8 (F0 [831,835] ob) 835=none:=L6 h3
 refine k2 (A2 (A3 J J (A5 (B4 J) J (A5 (A7 J) J (G7 J J J J (A5 (V5 J J) J (A3 J J (A4 ?_))))))));refine k1 (k3 ?_);refine D2 (X:=Nat) (fun i=>([(0,.s A14),(1,.s (M7 fr)),(9,.s (.one (.mut 831))),(10,C3 th.length),(11,C3 i)]++C6 [831,835] gf,[(830,A45 A s a),(831,thO th),(832,snO sn)]++F0 [831,835] ob)) (fun i=>i≤th.length∧∀t∈th.take i,t.from_≤fr) (fun i=>th.length - i) 0 ⟨Nat.zero_le _,fun _ h=>by cases h⟩ ?_ ?_
 ·exact K57 ⟨le1 rfl,le1 rfl,le1 rfl,le1 rfl,le1 rfl,trivial⟩ (D5 hH) (by repeat (first | exact A8 | refine tail_drop rfl ?_ | refine A9 rfl ?_ | refine F4 _ rfl ?_)) (C8 (L:=[(830,_),(831,_),(832,_)]) ⟨rfl,rfl,rfl,trivial⟩ (by repeat (first | exact C0 | refine C4 rfl ?_ | refine D9 hf3 ?_ | refine L0 _ rfl ?_)))
 rintro i ⟨hi,hlo⟩
 dsimp only at hi hlo ⊢
 refine k2 (A2 (F3 J J J (A4 ?_)));refine k1 (k2 ?_);refine B1 rfl (fun ht=>?_) (fun ht=>?_)
 rotate_left
 ·have hie:i=th.length:=by have:=A1 ht;omega
  have hk:A53 fr th=th:=by
   rw [C86 (i:=i) hlo (fun t h=>by rw [hie,K98 (Nat.le_refl _)] at h;cases h),hie,K89]
  rw [hk]
  refine k6 (k7 (k7 (k8 J ?_)))
  exact R1 (A59 rfl) (by repeat (first | exact A8 | refine tail_drop rfl ?_ | refine A9 rfl ?_ | refine F4 _ rfl ?_)) (C8 (L:=[(830,_),(831,_),(832,_)]) ⟨rfl,rfl,rfl,trivial⟩ (by repeat (first | exact C0 | refine C4 rfl ?_ | refine D9 hf3 ?_ | refine L0 _ rfl ?_))) ⟨rfl,rfl⟩
 have hlt:i < th.length:=by have:=A0 ht;omega
 obtain ⟨t,htd⟩:∃t,t=th[i]:=⟨_,rfl⟩
 have hv:th[i]?=some t:=by rw [htd];simp [hlt]
 refine k5 (k1 (k2 (k3 (k2 (A2 (A3 J J (A5 (H6 J J J (by omega) (by omega)) J (A5 (A32 J J hv J) J (D1 (B27 835 hf3 (by decide)) J (A6 J J (H1 (C1 TySz.out J J J J J J) (A4 ?_))))))))))));refine k1 (k2 (A2 (A5 (A7 J) J (G7 J J J J (A3 J J (A5 (N4 J J) J (A4 ?_)))))));refine k1 ?_;refine B1 rfl (fun ht=>?_) (fun ht=>?_)
 ·have hgt:t.from_ > fr:=A0 ht
  have hk:A53 fr th=th.take i:=C86 hlo (fun x hx=>by rw [hv] at hx;cases hx;exact hgt)
  rw [hk]
  refine k2 (A2 (A3 J J (A3 J J (A5 (B4 J) J (A5 (A7 J) J (G7 J J J J (A3 J J (D1 (A64 J J J (by omega) (by omega) J) J (A5 (B4 J) J (A5 (A7 J) J (H1 (C1 TySz.out J J J J J J) (A4 ?_))))))))))))
  rw [K84]
  refine k1 (k10 (k12 (k11 (k11 (k12 ?_)))))
  exact E1 (A59 rfl) (by repeat (first | exact A8 | refine tail_drop rfl ?_ | refine A9 rfl ?_ | refine F4 _ rfl ?_)) (C8 (L:=[(830,_),(831,_),(832,_)]) ⟨rfl,rfl,rfl,trivial⟩ (by repeat (first | exact C0 | refine C4 rfl ?_ | refine D9 hf3 ?_ | refine L0 _ rfl ?_))) ⟨rfl,rfl⟩
 have hle:¬t.from_ > fr:=A1 ht
 refine k5 (k4 (k1 (A2 (D6 J J J (A3 J J (A4 ?_))))));refine k1 ?_
 exact ⟨i+1,⟨by omega,fun x hx=>by
  rw [E94 hv] at hx
  rcases List.mem_append.1 hx with hx | hx
  ·exact hlo x hx
  ·rw [List.mem_singleton.1 hx];omega⟩,by omega,K57 ⟨le1 rfl,le1 rfl,le1 rfl,le1 rfl,le1 rfl,trivial⟩ (D5 hH) (by repeat (first | exact A8 | refine tail_drop rfl ?_ | refine A9 rfl ?_ | refine F4 _ rfl ?_)) (C8 (L:=[(830,_),(831,_),(832,_)]) ⟨rfl,rfl,rfl,trivial⟩ (by repeat (first | exact C0 | refine C4 rfl ?_ | refine D9 hf3 ?_ | refine L0 _ rfl ?_)))⟩
set_option maxHeartbeats 1000000
theorem E96 {gf:Fr} {ob:Obs} (A:AL.Auto) (s:Str) (hA:AG A) (a:Nat) (ha:a < s.length) (hsl:s.length≤16777216) (m0:Mach) (hm0:MG A m0) (h0:B8 ob 830=some (A45 A s a)) (h1:B8 ob 831=some (thO m0.1)) (h2:B8 ob 832=some (snO m0.2)) :
  AL.Met Tryz.prog 116 [A14] gf ob [831,832,834,837,838] (fun rs ob'=>rs=[]∧ob'=(830,A45 A s (a+1))::(831,thO (D32 A s a m0).1)::(832,snO (D32 A s a m0).2)::oZ [831,832,834,837,838] ob):=by
 obtain ⟨hn1,hn2⟩:=hA.len
 have hcn:=hm0.cnt
 obtain ⟨th,hth⟩:∃th,th=m0.1:=⟨_,rfl⟩
 obtain ⟨sn,hsn⟩:∃sn,sn=m0.2:=⟨_,rfl⟩
 have hst:=hm0.st
 obtain ⟨ch,hch⟩:∃ch,ch=s[a]:=⟨_,rfl⟩
 have hv:s[((a:Nat):Int).toNat]?=some ch:=by rw [K84,hch];simp [ha]
 have hrd:D32 A s a m0=B03 A s (a+1) ch.toNat m0.1 ([],List.replicate A.States.length false):=by
  unfold D32;rw [K88,←K84 a,hv,K84];rfl
 rw [hrd]
 rw [←hth] at h1 hst hcn ⊢
 rw [←hsn] at h2
 have hl:th.length≤8000:=by omega
 refine AL.Met.introH Tryz.func116 (by decide) rfl rfl rfl (fun hH=>?_)
 refine D8 (K58 831 (l:=[(0,.s A14)]) (L:=[(830,_),(831,_),(832,_)]) ⟨le1 rfl,trivial⟩ hH (by repeat (first | exact A8 | refine A9 rfl ?_)) ⟨h0,h1,h2,trivial⟩) ?_
 refine D8 (K58 832 (l:=[(0,.s A14)]) (L:=[(830,_),(831,_),(832,_)]) ⟨le1 rfl,trivial⟩ (z6 hH) (by repeat (first | exact A8 | refine A9 rfl ?_)) ⟨rfl,rfl,rfl,trivial⟩) ?_
 refine D8 (Sees.forget 834) ?_
 refine D8 (Sees.forget 837) ?_
 refine D8 (Sees.forget 838) ?_
 refine D8 (K57 (gf':=C6 [831,832,834,837,838] gf) (l:=[(0,.s A14)]) (ob':=[(830,A45 A s a),(831,thO th),(832,snO sn)]++oZ [831,832,834,837,838] ob) ⟨le1 rfl,trivial⟩ (D5 hH) (by repeat (first | exact A8 | refine tail_drop rfl ?_ | refine A9 rfl ?_ | refine F4 _ rfl ?_ | refine a7 rfl ?_)) (C8 (L:=[(830,_),(831,_),(832,_)]) ⟨rfl,rfl,rfl,trivial⟩ (by repeat (first | exact oZ_base | refine C4 rfl ?_)))) ?_
 have z1:K3 831 (oZ [831,832,834,837,838] ob)=true:=D07 rfl rfl
 have z2:K3 832 (oZ [831,832,834,837,838] ob)=true:=D07 rfl rfl
 have z3:K3 834 (oZ [831,832,834,837,838] ob)=true:=D07 rfl rfl
 have z4:K3 837 (oZ [831,832,834,837,838] ob)=true:=D07 rfl rfl
 have z5:K3 838 (oZ [831,832,834,837,838] ob)=true:=D07 rfl rfl
 have f1:K0 831 (C6 [831,832,834,837,838] gf)=true:=C71 (j1 rfl)
 have f2:K0 832 (C6 [831,832,834,837,838] gf)=true:=C71 (j1 rfl)
 obtain ⟨R,hR⟩:∃R,B03 A s (a+1) ch.toNat th ([],List.replicate A.States.length false)=R:=⟨_,rfl⟩
 rw [hR]
 obtain ⟨Z,hZ⟩:∃Z,Z=oZ [831,832,834,837,838] ob:=⟨_,rfl⟩
 rw [←hZ] at z1 z2 z3 z4 z5 ⊢
 refine k2 (E8 (by kernel_rfl) (by kernel_rfl) (E3 J J (B5 (B4 J) J J (B5 (A7 J) J J (B5 (C9 J J J) J J (E3 J J (B5 (B4 J) J J (B5 (A7 J) J J (B5 (C9 J J J) J J (B5 (m8 J J (by omega) hv) J J (B5 (I2 J J) J J (P2 ?_))))))))))));refine k1 (k2 (A2 (A3 J J (A5 (B4 J) J (A5 (A7 J) J (G7 J J J J (D6 J J J (A5 (B4 J) J (A5 (A7 J) J (H1 (C1 TySz.out J J J J J J) (A4 ?_)))))))))));refine k1 (k2 (A2 (A3 J J (A5 (B4 J) J (A5 (A7 J) J (G7 J J J J (A6 J J (A4 ?_))))))));refine k1 (k2 (D8 (Sees.freezeG (k:=831) (α:=AL.Thread) (ec:=2) (c:=d7) (xs:=th) (e:=186) J J) ?_))
 refine D8 (K57 (gf':=C6 [831,832,834,837,838] gf) (l:=[(0,.s A14),(2,.s (U2 ch)),(3,D3 AL.Thread 2 d7 th)]) (ob':=[(830,macG A s (a+1) (.p (.list AL.Thread 2 d7 th)) (.mut 832)),(832,snO sn)]++Z) ⟨le1 rfl,le1 rfl,le1 rfl,trivial⟩ (D5 hH) (by repeat (first | exact A8 | refine tail_drop rfl ?_ | refine A9 rfl ?_ | refine F4 _ rfl ?_ | refine a7 rfl ?_)) (C8 (L:=[(830,_),(832,_)]) ⟨rfl,rfl,trivial⟩ (by repeat (first | exact C0 | refine C4 rfl ?_ | refine D9 (H7 z2).2.1 ?_ | refine D9 (H7 z4).2.1 ?_ | refine D9 (H7 z5).2.1 ?_ | refine C51 (by first | exact z1 | exact z2 | exact z3 | exact z4 | exact z5) ?_ | refine y1 (by first | exact z1 | exact z2 | exact z3 | exact z4 | exact z5) ?_)))) ?_
 refine D8 (Sees.forget 832) ?_
 refine D8 (K57 (gf':=C6 [831,832,834,837,838] gf) (l:=[(0,.s A14),(2,.s (U2 ch)),(3,D3 AL.Thread 2 d7 th)]) (ob':=[(830,macG A s (a+1) (.p (.list AL.Thread 2 d7 th)) .any)]++Z) ⟨le1 rfl,le1 rfl,le1 rfl,trivial⟩ (D5 hH) (by repeat (first | exact A8 | refine tail_drop rfl ?_ | refine A9 rfl ?_ | refine F4 _ rfl ?_ | refine a7 rfl ?_)) (C8 (L:=[(830,_)]) ⟨rfl,trivial⟩ (by repeat (first | exact C0 | refine C4 rfl ?_ | refine D9 (H7 z2).2.1 ?_ | refine D9 (H7 z4).2.1 ?_ | refine D9 (H7 z5).2.1 ?_ | refine C51 (by first | exact z1 | exact z2 | exact z3 | exact z4 | exact z5) ?_ | refine y1 (by first | exact z1 | exact z2 | exact z3 | exact z4 | exact z5) ?_)))) ?_
 refine P3 [14,11,8] [[],[8],[11],[11,8],[14,11,8]] [(8,([832],[])),(11,([],[])),(14,([],[]))] [(0,[]),(1,[]),(2,[]),(3,[]),(4,[]),(5,[]),(6,[]),(7,[]),(8,[]),(9,[]),(10,[]),(11,[]),(11,[8]),(12,[11,8]),(13,[11,8]),(14,[11,8])] [(0,[8]),(1,[8]),(1,[11]),(1,[11,8]),(7,[11]),(8,[11]),(9,[8]),(10,[8])] (by kernel_rfl) (by kernel_rfl) (E9 J J (by kernel_rfl) J J (B9 J J) (E9 J J (by kernel_rfl) J J (B9 J J) (E9 J J (by kernel_rfl) J J (B9 J J) (E9 J J (by kernel_rfl) J J (B4 J) (E9 J J (by kernel_rfl) J J (A7 J) (E9 J J (by kernel_rfl) J J (A7 J) (E9 J J (by kernel_rfl) J J (C9 J J J) (E9 J J (by kernel_rfl) J J (Z2 J (.pure _ _ _ _)) ?_))))))));refine Y2 rfl rfl (by kernel_rfl) rfl rfl (E35 (fun frc hU hk=>o5 832 Bool A12 false (S2 hU rfl) (S2 hU rfl) (by (first | omega | decide)) (by (first | omega | decide)) (fun _=>by first | exact ⟨⟨rfl,rfl⟩,trivial⟩ | exact ⟨H8 _ _ _,trivial⟩ | exact ⟨H8 _ _ _,⟨rfl,rfl⟩,H8 _ _ _,trivial⟩) (by rw [hk];(repeat (first | exact z2 | refine I49 ?_ | refine O8 rfl rfl ?_))))) rfl ?_;refine E9 J J (by kernel_rfl) J J (B4 J) (E9 J J (by kernel_rfl) J J (A7 J) (Y2 J J (by kernel_rfl) J J (A61 (fun frc hU=>C1 TySz.out (S2 hU J) J (S2 hU J) J J J)) J (w_again J J (by kernel_rfl) J J (A61 (fun frc hU=>C1 TySz.out (S2 hU J) J (S2 hU J) J J J)) J (E9 J J (by kernel_rfl) J J (B4 J) (E9 J J (by kernel_rfl) J J (A7 J) (Y2 J J (by kernel_rfl) J J (A61 (fun frc hU=>C1 TySz.out (S2 hU J) J (S2 hU J) J J J)) J ?_))))));refine D49 (ks:=[831,832,834,837,838]) rfl (by kernel_rfl) rfl ?_ ?_
 ·refine O1 J J (by kernel_rfl) J J (B9 J J) (O1 J J (by kernel_rfl) J J (B9 J J) (O1 J J (by kernel_rfl) J J (B9 J J) (O1 J J (by kernel_rfl) J J (B9 J J) (O1 J J (by kernel_rfl) J J (Z2 J (.pure _ _ _ _)) ?_))));refine x_eff rfl rfl (by kernel_rfl) rfl rfl (E35 (fun frc hU hk=>o5 832 Bool A12 false (S2 hU rfl) (S2 hU rfl) (by (first | omega | decide)) (by (first | omega | decide)) (fun _=>by first | exact ⟨⟨rfl,rfl⟩,trivial⟩ | exact ⟨H8 _ _ _,trivial⟩ | exact ⟨H8 _ _ _,⟨rfl,rfl⟩,H8 _ _ _,trivial⟩) (by rw [hk];(repeat (first | exact z2 | refine I49 ?_ | refine O8 rfl rfl ?_))))) rfl (K17 (by repeat (first | exact trivial | refine ⟨.inr rfl,?_⟩ | refine ⟨.inl rfl,?_⟩ | exact E87 (by repeat (first | exact C0 | refine C4 rfl ?_))))) ?_;refine O1 J J (by kernel_rfl) J J (B4 J) (O1 J J (by kernel_rfl) J J (A7 J) ?_);exact B84
 refine k1 (k2 ?_);refine D8 (K57 (gf':=C6 [831,832,834,837,838] gf) (l:=[(0,.s A14),(2,.s (U2 ch)),(3,D3 AL.Thread 2 d7 th)]) (ob':=[(830,macG A s (a+1) (.p (.v (.slice none 0 0))) (.mut 832)),(832,snO (List.replicate A.States.length false))]++Z) ⟨le1 rfl,le1 rfl,le1 rfl,trivial⟩ (D5 hH) (by repeat (first | exact A8 | refine tail_drop rfl ?_ | refine A9 rfl ?_ | refine F4 _ rfl ?_ | refine a7 rfl ?_)) (C8 (L:=[(830,_),(832,_)]) ⟨rfl,rfl,trivial⟩ (by repeat (first | exact C0 | refine C4 rfl ?_ | refine D9 (H7 z2).2.1 ?_ | refine D9 (H7 z4).2.1 ?_ | refine D9 (H7 z5).2.1 ?_ | refine C51 (by first | exact z1 | exact z2 | exact z3 | exact z4 | exact z5) ?_ | refine y1 (by first | exact z1 | exact z2 | exact z3 | exact z4 | exact z5) ?_)))) ?_
 refine D8 (K61 831 AL.Thread 2 d7 186 (kb:=830) (o:=4) J J (and_tt (B94 J (B94 J (B94 J f1))) (O8 J J (O8 J J z1)))) ?_
 refine A2 (A3 J J (E5 J J (A3 J J (A4 ?_))));refine k1 (k3 ?_);refine D2 (X:=Nat × Mach) (fun x=>([(0,.s A14),(2,.s (U2 ch)),(40,D3 AL.Thread 2 d7 th),(41,C3 th.length),(42,C3 x.1)]++C6 [831,832,834,837,838] gf,[(830,A45 A s (a+1)),(831,thO x.2.1),(832,snO x.2.2)]++Z)) (fun x=>x.1≤th.length∧B03 A s (a+1) ch.toNat (th.drop x.1) x.2=R∧MG A x.2) (fun x=>th.length - x.1) (0,([],List.replicate A.States.length false)) ⟨Nat.zero_le _,hR,MG.first A⟩ ?_ ?_
 ·exact K57 ⟨le1 rfl,le1 rfl,le1 rfl,le1 rfl,le1 rfl,trivial⟩ (D5 hH) (by repeat (first | exact A8 | refine tail_drop rfl ?_ | refine A9 rfl ?_ | refine F4 _ rfl ?_ | refine a7 rfl ?_)) (C8 (L:=[(830,_),(831,_),(832,_)]) ⟨rfl,rfl,rfl,trivial⟩ (by repeat (first | exact C0 | refine C4 rfl ?_ | refine D9 (H7 z2).2.1 ?_ | refine D9 (H7 z4).2.1 ?_ | refine D9 (H7 z5).2.1 ?_ | refine C51 (by first | exact z1 | exact z2 | exact z3 | exact z4 | exact z5) ?_ | refine y1 (by first | exact z1 | exact z2 | exact z3 | exact z4 | exact z5) ?_)))
 rintro ⟨i,m⟩ ⟨hi,hRi,hmg⟩
 dsimp only at hi hRi hmg ⊢
 refine k2 (A2 (F3 J J J (A4 ?_)));refine k1 (k2 ?_);refine B1 rfl (fun ht=>?_) (fun ht=>?_)
 rotate_left
 ·have hie:i=th.length:=by have:=A1 ht;omega
  rw [hie,List.drop_length] at hRi
  have hRm:m=R:=hRi
  rw [hRm]
  refine k6 (k7 (k7 (k8 J ?_)))
  exact R1 (A59 rfl) (by repeat (first | exact A8 | refine tail_drop rfl ?_ | refine A9 rfl ?_ | refine F4 _ rfl ?_ | refine a7 rfl ?_)) (C8 (L:=[(830,_),(831,_),(832,_)]) ⟨rfl,rfl,rfl,trivial⟩ (by repeat (first | exact C0 | refine C4 rfl ?_ | refine D9 (H7 z2).2.1 ?_ | refine D9 (H7 z4).2.1 ?_ | refine D9 (H7 z5).2.1 ?_ | refine C51 (by first | exact z1 | exact z2 | exact z3 | exact z4 | exact z5) ?_ | refine y1 (by first | exact z1 | exact z2 | exact z3 | exact z4 | exact z5) ?_))) ⟨rfl,rfl⟩
 have hlt:i < th.length:=by have:=A0 ht;omega
 obtain ⟨t,htd⟩:∃t,t=th[i]:=⟨_,rfl⟩
 have hvt:th[i]?=some t:=by rw [htd];simp [hlt]
 rw [K91 hlt,←htd,B03] at hRi
 obtain ⟨hs1,hs2⟩:=hst t (K93 hvt)
 obtain ⟨q,hqd⟩:∃q,q=T3 A t.state:=⟨_,rfl⟩
 have hvs:A.States[t.state.toNat]?=some q:=by rw [hqd];exact D33 ⟨hs1,hs2⟩
 have hqg:=x6 (B25 hA ⟨hs1,hs2⟩)
 rw [←hqd] at hRi hqg
 refine k5 (k1 (k2 (k3 (k2 (A2 (A5 (B2 J (.pure _ _ _ _) J (by omega) hvt) J (A5 (E2 J J) J (D1 (B27 837 (H7 (O8 J J (O8 J J (O8 J J z4)))).2.1 (by decide)) J (H1 (C1 TySz.out J J J J J J) (A4 ?_))))))))));refine k1 (k2 ?_);refine D8 (K57 (gf':=C6 [831,832,834,837,838] gf) (l:=[(0,.s A14),(2,.s (U2 ch)),(40,D3 AL.Thread 2 d7 th),(41,C3 th.length),(42,C3 i),(5,.s (.one (.ref 837 0)))]) (ob':=[(830,A45 A s (a+1)),(831,thO m.1),(832,snO m.2),(837,.box [.p (.v (.int .i64 t.state)),.p (.v (.int .i64 t.from_))])]++Z) ⟨le1 rfl,le1 rfl,le1 rfl,le1 rfl,le1 rfl,le1 rfl,trivial⟩ (D5 hH) (by repeat (first | exact A8 | refine tail_drop rfl ?_ | refine A9 rfl ?_ | refine F4 _ rfl ?_ | refine a7 rfl ?_)) (C8 (L:=[(830,_),(831,_),(832,_),(837,_)]) ⟨rfl,rfl,rfl,rfl,trivial⟩ (by repeat (first | exact C0 | refine C4 rfl ?_ | refine D9 (H7 z2).2.1 ?_ | refine D9 (H7 z4).2.1 ?_ | refine D9 (H7 z5).2.1 ?_ | refine C51 (by first | exact z1 | exact z2 | exact z3 | exact z4 | exact z5) ?_ | refine y1 (by first | exact z1 | exact z2 | exact z3 | exact z4 | exact z5) ?_)))) ?_
 refine P3 [10,9] [[],[9],[10,9]] [(9,([838],[])),(10,([],[]))] [(0,[]),(1,[]),(2,[]),(3,[]),(4,[]),(5,[]),(6,[]),(7,[]),(8,[]),(9,[]),(10,[9])] [(0,[9]),(1,[9]),(2,[9]),(3,[9]),(4,[9]),(5,[9]),(6,[9]),(7,[9]),(8,[9])] (by kernel_rfl) (by kernel_rfl) (E9 J J (by kernel_rfl) J J (B9 J J) (E9 J J (by kernel_rfl) J J (B4 J) (E9 J J (by kernel_rfl) J J (A7 J) (E9 J J (by kernel_rfl) J J (A7 J) (E9 J J (by kernel_rfl) J J (C9 J J J) (E9 J J (by kernel_rfl) J J (A7 J) (E9 J J (by kernel_rfl) J J (C9 J J J) (E9 J J (by kernel_rfl) J J (B2 J (.pure _ _ _ _) J (by omega) hvs) (E9 J J (by kernel_rfl) J J (E2 J J) ?_)))))))));refine Y2 rfl rfl (by kernel_rfl) rfl rfl (r_alloc (by repeat (first | exact z5 | refine I49 ?_ | refine O8 rfl rfl ?_))) rfl ?_;refine Y2 J J (by kernel_rfl) J J (A61 (fun frc hU=>C1 TySz.out (S2 hU J) J (S2 hU J) J J J)) J ?_;refine D49 (ks:=[831,832,834,837,838]) rfl (by kernel_rfl) rfl ?_ ?_
 ·refine O1 J J (by kernel_rfl) J J (B9 J J) (O1 J J (by kernel_rfl) J J (B4 J) (O1 J J (by kernel_rfl) J J (A7 J) (O1 J J (by kernel_rfl) J J (A7 J) (O1 J J (by kernel_rfl) J J (C9 J J J) (O1 J J (by kernel_rfl) J J (A7 J) (O1 J J (by kernel_rfl) J J (C9 J J J) (O1 J J (by kernel_rfl) J J (B2 J (.pure _ _ _ _) J (by omega) hvs) (O1 J J (by kernel_rfl) J J (E2 J J) ?_))))))));exact B84
 refine k1 (k2 ?_);refine D8 (K57 (gf':=C6 [831,832,834,837,838] gf) (l:=[(0,.s A14),(2,.s (U2 ch)),(40,D3 AL.Thread 2 d7 th),(41,C3 th.length),(42,C3 i),(5,.s (.one (.ref 837 0))),(6,.s (.one (.ref 838 0)))]) (ob':=[(830,A45 A s (a+1)),(831,thO m.1),(832,snO m.2),(837,.box [.p (.v (.int .i64 t.state)),.p (.v (.int .i64 t.from_))]),(838,.box ((cellsOf A51 q 0 7).map .p))]++Z) ⟨le1 rfl,le1 rfl,le1 rfl,le1 rfl,le1 rfl,le1 rfl,le1 rfl,trivial⟩ (D5 hH) (by repeat (first | exact A8 | refine tail_drop rfl ?_ | refine A9 rfl ?_ | refine F4 _ rfl ?_ | refine a7 rfl ?_)) (C8 (L:=[(830,_),(831,_),(832,_),(837,_),(838,_)]) ⟨rfl,rfl,rfl,rfl,rfl,trivial⟩ (by repeat (first | exact C0 | refine C4 rfl ?_ | refine D9 (H7 z2).2.1 ?_ | refine D9 (H7 z4).2.1 ?_ | refine D9 (H7 z5).2.1 ?_ | refine C51 (by first | exact z1 | exact z2 | exact z3 | exact z4 | exact z5) ?_ | refine y1 (by first | exact z1 | exact z2 | exact z3 | exact z4 | exact z5) ?_)))) ?_
 by_cases hK:q.Kind=0
 ·have hd:ch.toNat / 64=0∨ch.toNat / 64=1∨ch.toNat / 64=2∨ch.toNat / 64=3:=by have:=ch.toNat_lt;omega
  have hdK:=decide_eq_true hK
  rcases hd with hd | hd | hd | hd
  all_goals
   have hq4:=quo64 ch.toNat_lt hd
   have hm0:0≤(ch.toNat:Int).tmod 64:=Int.tmod_nonneg _ (by omega)
   refine A2 (A5 (A7 J) J (G7 J J J J (A5 (F7 J J) J (A3 J J (H4 J J J hdK (A3 J J (H4 J J J hdK (A5 (E32 J J (by decide)) J (H4 J J J hdK (A5 (A7 J) J (H4 J J J hdK (A5 (s9 J J (hq4) (by decide)) J (H4 J J J hdK (G7 J J J J (H4 J J J hdK (A3 J J (H4 J J J hdK (A5 (B07 J J (by decide)) J (H4 J J J hdK (A5 (J02 J J (by (exact hm0))) J ?_))))))))))))))))))));refine H4 J J J hdK (A5 (D38 J J J (fun _=>rfl)) J (H4 J J J hdK (A5 (F7 J J) J (A5 (R3 J (hdK) J) J (A4 ?_)))));refine k1 ?_;refine B1 rfl (fun ht=>?_) (fun ht=>?_)
   ·have hB:x5 q.Set ch.toNat=1:=by
     have h1:=A0 ht
     rw [H92,rem64] at h1
     unfold x5
     rw [hd]
     exact h1
    rw [if_pos ⟨hK,hB⟩] at hRi
    obtain ⟨M,hM⟩:∃M,D31 A s (a+1) ⟨q.Next,t.from_⟩ m=M:=⟨_,rfl⟩
    rw [hM] at hRi
    have hMg:MG A M:=by rw [←hM];exact D70 s hA (by dsimp only;omega) hmg
    skip
    refine A2 (A3 J J (A5 (A7 J) J (G7 J J J J (A5 (A7 J) J (G7 J J J J (A5 (J4 J) J (G8 (F92 A s hA (a+1) q.Next t.from_ m M hmg (by omega) hM J J J (H7 (O8 J J (O8 J J (O8 J J (O8 J J (O8 J J z3)))))).2.1) J J J ?_)))))));rintro _ _ ⟨rfl,rfl⟩;refine A4 ?_;refine k4 (k1 (A2 (D6 J J J (A3 J J (A4 ?_)))));refine k1 ?_;refine ⟨(i+1,M),⟨by omega,hRi,hMg⟩,by dsimp only;omega,?_⟩
    exact K57 ⟨le1 rfl,le1 rfl,le1 rfl,le1 rfl,le1 rfl,trivial⟩ (D5 hH) (by repeat (first | exact A8 | refine tail_drop rfl ?_ | refine A9 rfl ?_ | refine F4 _ rfl ?_ | refine a7 rfl ?_)) (C8 (L:=[(830,_),(831,_),(832,_)]) ⟨rfl,rfl,rfl,trivial⟩ (by repeat (first | exact C0 | refine C4 rfl ?_ | refine D9 (H7 z2).2.1 ?_ | refine D9 (H7 z4).2.1 ?_ | refine D9 (H7 z5).2.1 ?_ | refine C51 (by first | exact z1 | exact z2 | exact z3 | exact z4 | exact z5) ?_ | refine y1 (by first | exact z1 | exact z2 | exact z3 | exact z4 | exact z5) ?_)))
   ·have hB:¬x5 q.Set ch.toNat=1:=by
     have h1:=A1 ht
     rw [H92,rem64] at h1
     unfold x5
     rw [hd]
     exact h1
    rw [if_neg (fun h=>hB h.2)] at hRi
    refine k5 (k4 (k1 (A2 (D6 J J J (A3 J J (A4 ?_))))));refine k1 ?_;refine ⟨(i+1,m),⟨by omega,hRi,hmg⟩,by dsimp only;omega,?_⟩
    exact K57 ⟨le1 rfl,le1 rfl,le1 rfl,le1 rfl,le1 rfl,trivial⟩ (D5 hH) (by repeat (first | exact A8 | refine tail_drop rfl ?_ | refine A9 rfl ?_ | refine F4 _ rfl ?_ | refine a7 rfl ?_)) (C8 (L:=[(830,_),(831,_),(832,_)]) ⟨rfl,rfl,rfl,trivial⟩ (by repeat (first | exact C0 | refine C4 rfl ?_ | refine D9 (H7 z2).2.1 ?_ | refine D9 (H7 z4).2.1 ?_ | refine D9 (H7 z5).2.1 ?_ | refine C51 (by first | exact z1 | exact z2 | exact z3 | exact z4 | exact z5) ?_ | refine y1 (by first | exact z1 | exact z2 | exact z3 | exact z4 | exact z5) ?_)))
 have hdF:=decide_eq_false hK
 refine A2 (A5 (A7 J) J (G7 J J J J (A5 (F7 J J) J (A3 J J (I8 J J J (by rw [hdF];decide) J ?_)))));refine I8 J J J (by rw [hdF];decide) J ?_;refine I8 J J J (by rw [hdF];decide) J ?_;refine I8 J J J (by rw [hdF];decide) J ?_;refine I8 J J J (by rw [hdF];decide) J ?_;refine I8 J J J (by rw [hdF];decide) J ?_;refine I8 J J J (by rw [hdF];decide) J ?_;refine I8 J J J (by rw [hdF];decide) J ?_;refine I8 J J J (by rw [hdF];decide) J ?_;refine I8 J J J (by rw [hdF];decide) J ?_;refine A5 (S6 J (hdF) J) J (A4 ?_);refine k1 ?_;refine B1 rfl (fun ht=>?_) (fun ht=>?_)
 ·cases ht
 refine k5 (k4 (k1 (A2 (D6 J J J (A3 J J (A4 ?_))))));refine k1 ?_
 rw [if_neg (fun h=>hK h.1)] at hRi
 refine ⟨(i+1,m),⟨by omega,hRi,hmg⟩,by dsimp only;omega,?_⟩
 exact K57 ⟨le1 rfl,le1 rfl,le1 rfl,le1 rfl,le1 rfl,trivial⟩ (D5 hH) (by repeat (first | exact A8 | refine tail_drop rfl ?_ | refine A9 rfl ?_ | refine F4 _ rfl ?_ | refine a7 rfl ?_)) (C8 (L:=[(830,_),(831,_),(832,_)]) ⟨rfl,rfl,rfl,trivial⟩ (by repeat (first | exact C0 | refine C4 rfl ?_ | refine D9 (H7 z2).2.1 ?_ | refine D9 (H7 z4).2.1 ?_ | refine D9 (H7 z5).2.1 ?_ | refine C51 (by first | exact z1 | exact z2 | exact z3 | exact z4 | exact z5) ?_ | refine y1 (by first | exact z1 | exact z2 | exact z3 | exact z4 | exact z5) ?_)))
set_option maxHeartbeats 1000000
theorem H51 {A:AL.Auto} {s:Str} {f a:Nat} {m m1 m2:Mach} {b b':Int × Int} {fd fd':Bool} {i:Int} (h1:(if fd=true then m else D31 A s a ⟨A.Start,a⟩ m)=m1) (hi:Q9 A m1.1=i) (hb:(if 0≤i then (i,(a:Int)) else b)=b') (hf:(if 0≤i then true else fd)=fd') (h2:(if 0≤i then (A53 i m1.1,m1.2) else m1)=m2) :
  B04 A s (f+1) a m b fd=if a=s.length∨(fd'=true∧m2.1=[]) then (b',fd') else B04 A s f (a+1) (D32 A s a m2) b' fd':=by
 subst h1 hi hb hf h2
 rfl
theorem K40 (A:AL.Auto) (s:Str) (hA:AG A) (hs:s.length≤16777216):FnOk Tryz.prog 79 [A52 A,J6 s,F2 0] (fun rs=>rs=[.agg [.v (.int .i64 (B24 A s 0).1.1),.v (.int .i64 (B24 A s 0).1.2)],H9 (B24 A s 0).2]):=by
 obtain ⟨R,hR⟩:∃R,B24 A s 0=R:=⟨_,rfl⟩
 rw [hR]
 have hR0:B04 A s (s.length+1 - 0) 0 ([],List.replicate A.States.length false) (0,0) false=R:=hR
 obtain ⟨hn1,hn2⟩:=hA.len
 refine FnOk.intro Tryz.func79 (by decide) J J J J ?_
 refine k2 (A2 (A5 (o9 J J J) J (D1 (I4 6 J) J (A6 J J (A4 ?_)))));refine k1 (k2 (A2 (A5 (E2 J J) J (A3 J J (A3 J J (B12 (I60 A s hA) J J J J ?_))))));rintro _ _ ⟨rfl,rfl⟩;refine ⟨rfl,?_⟩;refine A6 J J (A4 ?_);refine k1 (D8 (K61 831 AL.Thread 2 d7 186 (kb:=830) (o:=4) J J J) ?_)
 refine k2 (A2 (D1 (I4 9 J) J (A4 ?_)));refine k1 (k2 (A2 (A6 J J (A4 ?_))));refine k1 (k3 (D2 (X:=Nat × Mach × (Int × Int) × Bool) (fun x=>([(1,Y9 s),(3,.s (.one (.eref Unit 2 (E93 A) () 0))),(6,.s (.one (.ref 6 0))),(8,.s (.one (.ref 830 0))),(9,.s (.one (.ref 9 0))),(10,P6 x.2.2.2)],[(830,A45 A s x.1),(831,thO x.2.1.1),(832,snO x.2.1.2),(6,.box [.p (.v (.int .i64 0)),.p (.v (.int .i64 0))]),(9,.box [.p (.v (.int .i64 x.2.2.1.1)),.p (.v (.int .i64 x.2.2.1.2))])])) (fun x=>x.1≤s.length∧MG A x.2.1∧B04 A s (s.length+1 - x.1) x.1 x.2.1 x.2.2.1 x.2.2.2=R) (fun x=>s.length - x.1) (0,([],List.replicate A.States.length false),(0,0),false) ⟨Nat.zero_le _,MG.first A,hR0⟩ (Sees.of ⟨le1 rfl,le1 rfl,le1 rfl,le1 rfl,le1 rfl,le1 rfl,trivial⟩ ⟨rfl,rfl,rfl,rfl,rfl,trivial⟩) ?_))
 rintro ⟨a,m,⟨b1,b2⟩,fd⟩ ⟨ha,hm,hRa⟩
 dsimp only at ha hm hRa ⊢
 obtain ⟨m1,hm1⟩:∃m1,(if fd=true then m else D31 A s a ⟨A.Start,a⟩ m)=m1:=⟨_,rfl⟩
 obtain ⟨i,hi⟩:∃i,Q9 A m1.1=i:=⟨_,rfl⟩
 obtain ⟨b',hb'⟩:∃b',(if 0≤i then (i,(a:Int)) else (b1,b2))=b':=⟨_,rfl⟩
 obtain ⟨fd',hfd'⟩:∃fd',(if 0≤i then true else fd)=fd':=⟨_,rfl⟩
 obtain ⟨m2,hm2⟩:∃m2,(if 0≤i then (A53 i m1.1,m1.2) else m1)=m2:=⟨_,rfl⟩
 rw [show s.length+1 - a=(s.length - a)+1 by omega,H51 hm1 hi hb' hfd' hm2] at hRa
 have hg1:MG A m1:=by
  rw [←hm1]
  split
  ·exact hm
  ·exact D70 s hA hA.start hm
 have hg2:MG A m2:=by
  rw [←hm2]
  split
  ·exact hg1.keep i
  ·exact hg1
 have hc1:=hg1.cnt
 have hc2:=hg2.cnt
 refine k3 (k2 (k2 (A2 (A3 J J (A5 (Q8 J) J (A4 ?_))))));refine k1 ?_;refine C20 [(1,Y9 s),(3,.s (.one (.eref Unit 2 (E93 A) () 0))),(6,.s (.one (.ref 6 0))),(8,.s (.one (.ref 830 0))),(9,.s (.one (.ref 9 0))),(10,P6 fd)] [(830,A45 A s a),(831,thO m1.1),(832,snO m1.2),(6,.box [.p (.v (.int .i64 0)),.p (.v (.int .i64 0))]),(9,.box [.p (.v (.int .i64 b1)),.p (.v (.int .i64 b2))])] ?_ ?_
 ·cases fd with
  | true =>
   rw [if_pos rfl] at hm1
   subst hm1
   skip
   refine B1 rfl (fun ht=>?_) (fun ht=>?_)
   ·cases ht
   refine k5 (k1 ?_)
   exact Sees.of ⟨le1 rfl,le1 rfl,le1 rfl,le1 rfl,le1 rfl,le1 rfl,trivial⟩ ⟨rfl,rfl,rfl,rfl,rfl,trivial⟩
  | false =>
   rw [if_neg (by decide)] at hm1
   skip
   refine B1 rfl (fun ht=>?_) (fun ht=>?_)
   rotate_left
   ·cases ht
   skip
   refine F39 8 (by kernel_rfl) (by kernel_rfl) J (E3 J J (B5 (B7 J) J J (B5 (B0 J J) J J (E3 J J (B5 (B4 J) J J (B5 (A7 J) J J (B5 (C9 J J J) J J (B5 (J4 J) J J (P2 ?_)))))))));refine G97 (F92 A s hA a A.Start a m m1 hm hA.start hm1 J J J J) J J J ?_;rintro _ _ ⟨rfl,rfl⟩;refine ⟨_,rfl,?_⟩;refine P2 ?_;refine k1 ?_
   exact Sees.of ⟨le1 rfl,le1 rfl,le1 rfl,le1 rfl,le1 rfl,le1 rfl,trivial⟩ ⟨rfl,rfl,rfl,rfl,rfl,trivial⟩
 refine k2 (k2 (A2 (A3 J J (G8 (E95 A s a m1.1 m1.2 hg1.st (by omega) J J J J) J J J ?_))));rintro _ _ ⟨rfl,rfl⟩;refine A6 J J (A4 ?_);refine k1 (k2 ?_)
 rw [hi]
 refine A2 (A3 J J (A5 (V4 J J) J (A4 ?_)));refine k1 ?_;refine C20 [(1,Y9 s),(3,.s (.one (.eref Unit 2 (E93 A) () 0))),(6,.s (.one (.ref 6 0))),(8,.s (.one (.ref 830 0))),(9,.s (.one (.ref 9 0))),(10,P6 fd')] [(830,A45 A s a),(831,thO m2.1),(832,snO m2.2),(6,.box [.p (.v (.int .i64 0)),.p (.v (.int .i64 0))]),(9,.box [.p (.v (.int .i64 b'.1)),.p (.v (.int .i64 b'.2))])] ?_ ?_
 ·skip
  refine B1 rfl (fun ht=>?_) (fun ht=>?_)
  ·have h0:=A0 ht
   rw [if_pos h0] at hb' hfd' hm2
   subst hb' hfd' hm2
   refine k2 (A2 (A3 J J (A3 J J (A5 (B4 J) J (A5 (A7 J) J (G7 J J J J (A5 (J4 J) J (H1 (C1 TySz.out J J J J J J) (A6 J J (A4 ?_))))))))));refine k1 (A2 (A3 J J (A3 J J (G8 (I61 A s a i m1.1 m1.2 (by omega) J J J J) J J J ?_))));rintro _ _ ⟨rfl,rfl⟩;refine A4 ?_;refine k1 ?_
   exact Sees.of ⟨le1 rfl,le1 rfl,le1 rfl,le1 rfl,le1 rfl,le1 rfl,trivial⟩ ⟨rfl,rfl,rfl,rfl,rfl,trivial⟩
  ·have h0:=A1 ht
   rw [if_neg h0] at hb' hfd' hm2
   subst hb' hfd' hm2
   refine k5 (k1 ?_)
   exact Sees.of ⟨le1 rfl,le1 rfl,le1 rfl,le1 rfl,le1 rfl,le1 rfl,trivial⟩ ⟨rfl,rfl,rfl,rfl,rfl,trivial⟩
 refine k2 (k2 ?_)
 by_cases hal:a=s.length
 ·have hd:decide ((a:Int)=(s.length:Int))=true:=decide_eq_true (by omega)
  rw [if_pos (.inl hal)] at hRa
  refine A2 (A3 J J (A5 (B4 J) J (A5 (A7 J) J (G7 J J J J (A3 J J (A5 (I6 J) J (A5 (F7 J J) J (A3 J J (I8 J J J (by rw [hd];decide) J ?_)))))))));refine I8 J J J (by rw [hd];decide) J ?_;refine C33 J J J J (C33 J J J J (C33 J J J J (C33 J J J J (C33 J J J J (C33 J J J J (I8 J J J (by rw [hd];decide) J ?_))))));refine A5 (R3 J (hd) J) J (A4 ?_);refine k1 ?_;refine B1 rfl (fun ht=>?_) (fun ht=>?_)
  rotate_left
  ·cases ht
  refine k2 (A2 (A5 (M6 J J J) J (A3 J J (H1 (C1 TySz.out J J J J J J) (A6 J J (A4 ?_))))));refine k1 (k10 (k11 (k12 (k11 (k12 ?_)))))
  exact B6 (rs:=[.agg [.v (.int .i64 b'.1),.v (.int .i64 b'.2)],H9 fd']) (J03 rfl rfl rfl rfl rfl rfl rfl) (by rw [←hRa])
 have hd:decide ((a:Int)=(s.length:Int))=false:=decide_eq_false (by omega)
 cases fd' with
 | true =>
  refine A2 (A3 J J (A5 (B4 J) J (A5 (A7 J) J (G7 J J J J (A3 J J (A5 (I6 J) J (A5 (F7 J J) J (A3 J J (H4 J J J hd (A3 J J (H4 J J J hd (A3 J J (H4 J J J J (A3 J J (H4 J J J J (A5 (B4 J) J (H4 J J J J (A5 (A7 J) J (H4 J J J J (G7 J J J J (H4 J J J J (A5 (V5 J J) J (H4 J J J J ?_)))))))))))))))))))))));refine A5 (F7 J J) J (H4 J J J hd (A5 (R3 J (rfl) J) J (A5 (S6 J (hd) J) J (A4 ?_))));refine k1 ?_;refine B1 rfl (fun ht=>?_) (fun ht=>?_)
  ·have hnl:m2.1=[]:=List.length_eq_zero_iff.1 (by have:=A0 ht;omega)
   rw [if_pos (.inr ⟨rfl,hnl⟩)] at hRa
   refine k2 (A2 (A5 (M6 J J J) J (A3 J J (H1 (C1 TySz.out J J J J J J) (A6 J J (A4 ?_))))));refine k1 (k10 (k11 (k12 (k11 (k12 ?_)))))
   exact B6 (rs:=[.agg [.v (.int .i64 b'.1),.v (.int .i64 b'.2)],H9 true]) (J03 rfl rfl rfl rfl rfl rfl rfl) (by rw [←hRa])
  ·have hnl:m2.1≠[]:=fun e=>by have:=A1 ht;rw [e] at this;exact this rfl
   rw [if_neg (fun h=>h.elim hal fun h=>hnl h.2)] at hRa
   refine k5 (k1 (A2 (A3 J J (G8 (E96 A s hA a (by omega) hs m2 hg2 J J J) J J J ?_))));rintro _ _ ⟨rfl,rfl⟩;refine A4 ?_;refine k4 (k1 ?_)
   exact ⟨(a+1,D32 A s a m2,b',true),⟨by dsimp only;omega,F31 s hA hg2,by dsimp only;rw [show s.length+1 - (a+1)=s.length - a by omega];exact hRa⟩,by dsimp only;omega,Sees.of ⟨le1 rfl,le1 rfl,le1 rfl,le1 rfl,le1 rfl,le1 rfl,trivial⟩ ⟨rfl,rfl,rfl,rfl,rfl,trivial⟩⟩
 | false =>
  rw [if_neg (fun h=>h.elim hal fun h=>by cases h.1)] at hRa
  refine A2 (A3 J J (A5 (B4 J) J (A5 (A7 J) J (G7 J J J J (A3 J J (A5 (I6 J) J (A5 (F7 J J) J (A3 J J (H4 J J J hd (A3 J J (H4 J J J hd (A3 J J (I8 J J J (by decide) J (I8 J J J (by decide) J (I8 J J J (by decide) J (I8 J J J (by decide) J (I8 J J J (by decide) J (I8 J J J (by decide) J (H4 J J J hd (A5 (S6 J (rfl) J) J (A5 (S6 J (hd) J) J (A4 ?_))))))))))))))))))))));refine k1 ?_;refine B1 rfl (fun ht=>?_) (fun ht=>?_)
  ·cases ht
  refine k5 (k1 (A2 (A3 J J (G8 (E96 A s hA a (by omega) hs m2 hg2 J J J) J J J ?_))));rintro _ _ ⟨rfl,rfl⟩;refine A4 ?_;refine k4 (k1 ?_)
  exact ⟨(a+1,D32 A s a m2,b',false),⟨by dsimp only;omega,F31 s hA hg2,by dsimp only;rw [show s.length+1 - (a+1)=s.length - a by omega];exact hRa⟩,by dsimp only;omega,Sees.of ⟨le1 rfl,le1 rfl,le1 rfl,le1 rfl,le1 rfl,le1 rfl,trivial⟩ ⟨rfl,rfl,rfl,rfl,rfl,trivial⟩⟩
theorem anyG_ok (A:AL.Auto) (s:Str) (hA:AG A) (hs:s.length≤16777216):FnOk Tryz.prog 46 [A52 A,J6 s] (fun rs=>rs=[H9 (B24 A s 0).2,F2 0]):=by
 refine FnOk.intro Tryz.func46 (by decide) J J J J ?_
 refine k2 (A2 (A5 (o9 J J J) J (A6 J J (A6 J J (A4 ?_)))));refine k1 (k2 (k2 (A2 (A5 (E2 J J) J (D7 (I59 A hA) J J J ?_)))));rintro _ rfl;refine A6 J J (A4 ?_);refine k1 (k2 (A2 (A3 J J (A5 (R2 J J) J (A4 ?_)))));refine k1 ?_;refine B1 rfl (fun ht=>?_) (fun ht=>?_)
 ·cases ht
 refine k5 (k1 (k2 (A2 (A5 (E2 J J) J (A3 J J (D7 (K40 A s hA hs) J J J ?_))))));rintro _ rfl;refine A3 J J (H0 J J J (H0 J J J (D1 (I4 7 J) J (H1 (C1 TySz.out J J J J J J) (A6 J J (A4 ?_))))));refine k1 (k2 (A2 (A3 J J (A6 J J (A6 J J (A4 ?_))))));refine k1 (k10 ?_)
 exact B6 (rs:=[H9 (B24 A s 0).2,F2 0]) (Z6 rfl rfl rfl rfl rfl) rfl
set_option maxHeartbeats 1000000
abbrev A27 (A:AL.Auto) (s:Str):Bool:=(B24 A s 0).2
theorem G59 (A:AL.Auto) (hA:AG A) (a b:Str) (ha:M2 a=0) (hb:M2 b=0):FnOk Tryz.prog 27 [A52 A,J6 a,J6 b] (fun rs=>rs=[D74 (y6 (A27 A) a b),F2 0]):=by
 have lims:∀{s:Str},M2 s=0→s.length≤1048576∧(F1 s).length≤4096:=fun {s} h=>by
  unfold M2 at h
  split at h
  ·cases h
  ·omega
 obtain ⟨ha1,ha2⟩:=lims ha
 obtain ⟨hb1,hb2⟩:=lims hb
 have hs0:=F84 a (by omega)
 have hs1:=F84 b (by omega)
 rw [show d6 a=(F1 a,0) by unfold d6;rw [if_neg (by omega)]] at hs0
 rw [show d6 b=(F1 b,0) by unfold d6;rw [if_neg (by omega)]] at hs1
 obtain ⟨x,hx⟩:∃x,x=F1 a:=⟨_,rfl⟩
 obtain ⟨y,hy⟩:∃y,y=F1 b:=⟨_,rfl⟩
 have hxl:∀s∈x,s.length≤1048576:=fun s hs=>by rw [hx] at hs;have:=H77 _ _ hs;omega
 have hyl:∀s∈y,s.length≤1048576:=fun s hs=>by rw [hy] at hs;have:=H77 _ _ hs;omega
 have hmo:y6 (A27 A) a b=V6 (A27 A) x y (A82 x y):=by unfold y6;rw [hx,hy]
 rw [hmo]
 rw [←hx] at ha2 hs0
 rw [←hy] at hb2 hs1
 have hid:=G58 [x,y] (by simp) (by simp only [L16,List.flatten_nil,K86,K90];omega)
 have hwk:=I54 (N0 (H5 [x,y]) x) (N0 (H5 [x,y]) y) (by rw [A54];exact ha2) (by rw [A54];exact hb2)
 obtain ⟨L,hL⟩:∃L,L=A82 x y:=⟨_,rfl⟩
 have hsc:B51 (N0 (H5 [x,y]) x) (N0 (H5 [x,y]) y)=L:=hL.symm
 rw [hsc] at hwk
 obtain ⟨hLl,hLb⟩:=G18 x y
 rw [←hL] at hLl hLb ⊢
 have hv0:([x,y].map (N0 (H5 [x,y])))[(0:Int).toNat]?=some (N0 (H5 [x,y]) x):=rfl
 have hv1:([x,y].map (N0 (H5 [x,y])))[(1:Int).toNat]?=some (N0 (H5 [x,y]) y):=rfl
 refine FnOk.intro Tryz.func27 (by decide) J J J J ?_
 refine k2 (A2 (A5 (o9 J J J) J (A6 J J (A6 J J (A4 ?_)))));refine k1 (k2 (A2 (A3 J J (D7 (hs0) J J J ?_))));rintro _ rfl;refine A3 J J (H0 J J J (H0 J J J (A6 J J (A6 J J (A4 ?_)))));refine k1 (k2 (k2 (A2 (A3 J J (A5 (R2 J J) J (A4 ?_))))));refine k1 ?_;refine B1 rfl (fun ht=>?_) (fun ht=>?_)
 ·cases ht
 refine k5 (k1 (k2 (A2 (A3 J J (D7 (hs1) J J J ?_)))));rintro _ rfl;refine A3 J J (H0 J J J (H0 J J J (A6 J J (A6 J J (A4 ?_)))));refine k1 (k2 (k2 (A2 (A3 J J (A5 (R2 J J) J (A4 ?_))))));refine k1 ?_;refine B1 rfl (fun ht=>?_) (fun ht=>?_)
 ·cases ht
 refine k5 (k1 (k2 (A2 (A3 J J (A3 J J (A5 (C5 (c:=strsC) (ys:=[x,y]) (E0 J J J J (E0 J J J J G5)) J J J) J (D7 (hid) J J J ?_)))))));rintro _ rfl;refine A6 J J (A4 ?_);refine k1 (k2 (E8 (by kernel_rfl) (by kernel_rfl) (E3 J J (B5 (B2 J (.pure _ _ _ _) J (by omega) hv0) J J (B5 (B0 J J) J J (E3 J J (B5 (B2 J (.pure _ _ _ _) J (by omega) hv1) J J (B5 (B0 J J) J J (B5 (O6 (hwk) J J) J J (E3 J J (B5 (Q0 J J) J J (B5 (Q0 J J) J J (B5 (I2 J J) J J (B5 (I2 J J) J J (P2 ?_)))))))))))))));refine k1 (k2 (A2 (D1 (S9 14 _ R5 J) J (A4 ?_))));refine k1 (k2 (k2 (A2 (A3 J J (E5 J J (A3 J J (A4 ?_)))))));refine k1 (k3 (D2 (X:=Nat) (fun i=>([(3,.s (.one (.eref Unit 2 (E93 A) () 0))),(8,D3 Str 1 R5 x),(10,D3 Str 1 R5 y),(14,.s (.one (.buf 14 Str 1 R5 (V6 (A27 A) x y (L.take i))))),(51,.s (pChanges L).s1),(52,C3 L.length),(53,C3 i)],[(14,.spare (V6 (A27 A) x y (L.take i)).length 1 9)])) (fun i=>i≤L.length) (fun i=>L.length - i) 0 (Nat.zero_le _) (Sees.of ⟨le1 rfl,le1 rfl,le1 rfl,le1 rfl,le1 rfl,le1 rfl,le1 rfl,trivial⟩ ⟨rfl,trivial⟩) ?_))
 intro i hi
 have hml:=E18 (A27 A) x y (L.take i)
 rw [K92] at hml
 have hml2:(V6 (A27 A) x y (L.take i)).length≤4097*8192:=Nat.le_trans hml (Nat.mul_le_mul (by omega) (by omega))
 dsimp only at hi ⊢
 refine k2 (A2 (F3 J J J (A4 ?_)));refine k1 (k2 ?_);refine B1 rfl (fun ht=>?_) (fun ht=>?_)
 rotate_left
 ·have hie:i=L.length:=by have:=A1 ht;omega
  rw [hie,K89]
  refine k6 (k2 (A2 (A3 J J (A6 J J (A6 J J (A4 ?_))))));refine k1 (k10 ?_)
  exact B6 (rs:=[D74 (V6 (A27 A) x y L),F2 0]) (Z6 rfl rfl rfl rfl rfl) rfl
 have hlt:i < L.length:=by have:=A0 ht;omega
 obtain ⟨c,hc⟩:∃c,c=L[i]:=⟨_,rfl⟩
 have hvc:L[i]?=some c:=by rw [hc];simp [hlt]
 obtain ⟨q1,q2,q3,q4,q5,q6⟩:=hLb c (K93 hvc)
 obtain ⟨W,hW⟩:∃W,W=V6 (A27 A) x y (L.take i):=⟨_,rfl⟩
 have hnx:V6 (A27 A) x y (L.take (i+1))=W++t6 (A27 A) (Y8 x y c):=by
  rw [E94 hvc,hW];unfold V6;rw [List.flatMap_append,List.flatMap_singleton]
 rw [←hW] at hml2 ⊢
 have hCl:=E16 x y c
 have hcs:=G56 [(x.drop c.Old.toNat).take ((c.Old+c.OldLen).toNat - c.Old.toNat),(y.drop c.New.toNat).take ((c.New+c.NewLen).toNat - c.New.toNat)] (by simp) (by
  simp only [L16,List.flatten_nil,L10]
  exact Nat.le_trans hCl (by omega))
 have hfl:[(x.drop c.Old.toNat).take ((c.Old+c.OldLen).toNat - c.Old.toNat),(y.drop c.New.toNat).take ((c.New+c.NewLen).toNat - c.New.toNat)].flatten=Y8 x y c:=by
  simp only [L16,List.flatten_nil,L10];rfl
 rw [hfl] at hcs
 refine k5 (k1 (k2 (k3 (k2 (A2 (A5 (B2 J (.pure _ _ _ _) J (by omega) hvc) J (A5 (E2 J J) J (D1 (I4 16 J) J (H1 (C1 TySz.out J J J J J J) (A4 ?_))))))))));refine k1 (k2 (E8 (by kernel_rfl) (by kernel_rfl) (E3 J J (B5 (A7 J) J J (B5 (C9 J J J) J J (B5 (A7 J) J J (B5 (C9 J J J) J J (B5 (A7 J) J J (B5 (C9 J J J) J J (B5 (X0 J J (by (first | omega | decide))) J J (B5 (E41 J (.pure _ _ _ _) J J (by (first | omega | decide)) (by (first | omega | decide)) (by (first | omega | decide))) J J (E3 J J (B5 (A7 J) J J (B5 (C9 J J J) J J (B5 (A7 J) J J (B5 (C9 J J J) J J (B5 (A7 J) J J (B5 (C9 J J J) J J (B5 (X0 J J (by (first | omega | decide))) J J (B5 (E41 J (.pure _ _ _ _) J J (by (first | omega | decide)) (by (first | omega | decide)) (by (first | omega | decide))) J J (B5 (C5 (c:=strsC) (ys:=[(x.drop c.Old.toNat).take ((c.Old+c.OldLen).toNat - c.Old.toNat),(y.drop c.New.toNat).take ((c.New+c.NewLen).toNat - c.New.toNat)]) (E0 J J J J (E0 J J J J G5)) J J J) J J (B5 (O6 (hcs) J J) J J (B5 (Z2 J (.pure _ _ _ _)) J J ?_)))))))))))))))))))))));refine E3 J J (P2 ?_);refine k1 (k3 ?_)
 obtain ⟨M,hM⟩:∃M,M=Y8 x y c:=⟨_,rfl⟩
 have hMs:∀s∈M,s.length≤1048576:=fun s hs=>by
  rw [hM] at hs
  exact (E17 hs).elim (hxl s) (hyl s)
 rw [←hM] at hCl hnx ⊢
 refine D2 (X:=Nat) (fun j=>([(3,.s (.one (.eref Unit 2 (E93 A) () 0))),(8,D3 Str 1 R5 x),(10,D3 Str 1 R5 y),(14,.s (.one (.buf 14 Str 1 R5 (W++t6 (A27 A) (M.take j))))),(51,.s (pChanges L).s1),(52,C3 L.length),(53,C3 i),(76,D3 Str 1 R5 M),(77,C3 M.length),(78,C3 j)],[(14,.spare (W++t6 (A27 A) (M.take j)).length 1 9)])) (fun j=>j≤M.length) (fun j=>M.length - j) 0 (Nat.zero_le _) ?_ ?_
 ·dsimp only
  rw [List.take_zero,show t6 (A27 A) []=[] from rfl,L10]
  exact Sees.of ⟨le1 rfl,le1 rfl,le1 rfl,le1 rfl,le1 rfl,le1 rfl,le1 rfl,le1 rfl,le1 rfl,le1 rfl,trivial⟩ ⟨rfl,trivial⟩
 intro j hj
 have hhl:=H93 (A27 A) (M.take j)
 rw [K92] at hhl
 dsimp only at hj ⊢
 refine k2 (A2 (F3 J J J (A4 ?_)));refine k1 (k2 ?_);refine B1 rfl (fun ht=>?_) (fun ht=>?_)
 rotate_left
 ·have hje:j=M.length:=by have:=A1 ht;omega
  rw [hje,K89,←hnx]
  refine k6 (k7 (k7 (k8 J (k4 (k1 (A2 (D6 J J J (A3 J J (A4 ?_)))))))));refine k1 ?_
  exact ⟨i+1,by omega,by omega,Sees.of ⟨le1 rfl,le1 rfl,le1 rfl,le1 rfl,le1 rfl,le1 rfl,le1 rfl,trivial⟩ ⟨rfl,trivial⟩⟩
 have hjlt:j < M.length:=by have:=A0 ht;omega
 obtain ⟨s,hs⟩:∃s,s=M[j]:=⟨_,rfl⟩
 have hvs:M[j]?=some s:=by rw [hs];simp [hjlt]
 have hsl:=hMs s (K93 hvs)
 have hba:=K23 s (by omega)
 have hbl:(f0 s).length≤16777216:=by unfold f0;split<;>(try rw [List.length_dropLast])<;>omega
 obtain ⟨V,hV⟩:∃V,V=W++t6 (A27 A) (M.take j):=⟨_,rfl⟩
 have hVl:V.length≤4097*8192+8192:=by rw [hV,K86];omega
 have hVn:W++t6 (A27 A) (M.take (j+1))=V++(if A27 A (f0 s)=true then [f0 s] else []):=by
  rw [hV,E94 hvs]
  unfold t6
  rw [L08,L32,K96]
  congr 2
  simp only [L01,List.map_nil,L26,List.filter_nil]
 rw [←hV]
 refine k5 (k1 (k2 (k3 (k2 (A2 (A5 (B2 J (.pure _ _ _ _) J (by omega) hvs) J (A5 (B0 J J) J (A6 J J (A4 ?_)))))))));refine k1 (k2 (E8 (by kernel_rfl) (by kernel_rfl) (B5 (E2 J J) J J (E3 J J (B5 (O6 (hba) J J) J J (B5 (O6 (anyG_ok A (f0 s) hA hbl) J J) J J (E3 J J (B5 (Q0 J J) J J (B5 (Q0 J J) J J (B5 (I2 J J) J J (B5 (I2 J J) J J (P2 ?_))))))))))));refine k1 (k2 (A2 (A3 J J (A4 ?_))));refine k1 ?_;refine B1 rfl (fun ht=>?_) (fun ht=>?_)
 ·rw [if_pos ht] at hVn
  skip
  refine A2 (A3 J J (A3 J J (D7 (hba) J J J ?_)));rintro _ rfl;refine A5 (C5 (c:=R5) (ys:=[f0 s]) (E0 J J J J G5) J J J) J (D1 (J7 J J J (.pure _ _ _ _) (by (simp only [K87,K90];omega)) J) J (A6 J J (A4 ?_)));refine k4 (k1 (A2 (D6 J J J (A3 J J (A4 ?_)))));refine k1 ?_;refine ⟨j+1,by omega,by omega,?_⟩
  (try dsimp only)
  rw [hVn]
  exact Sees.of ⟨le1 rfl,le1 rfl,le1 rfl,le1 rfl,le1 rfl,le1 rfl,le1 rfl,le1 rfl,le1 rfl,le1 rfl,trivial⟩ ⟨rfl,trivial⟩
 ·rw [if_neg (fun h=>by rw [show (B24 A (f0 s) 0).2=true from h] at ht;cases ht),L10] at hVn
  refine k5 (k4 (k1 (A2 (D6 J J J (A3 J J (A4 ?_))))));refine k1 ?_;refine ⟨j+1,by omega,by omega,?_⟩
  (try dsimp only)
  rw [hVn]
  exact Sees.of ⟨le1 rfl,le1 rfl,le1 rfl,le1 rfl,le1 rfl,le1 rfl,le1 rfl,le1 rfl,le1 rfl,le1 rfl,trivial⟩ ⟨rfl,trivial⟩
theorem H52 (A:AL.Auto) (hA:AG A) (a b:Str) (ha:M2 a=0) (hb:M2 b=0):AL.Met Tryz.prog 26 [H38 (a,b),.one (.eref Unit 2 (E93 A) () 0)] [] [] [] (fun rs ob'=>rs=[A67 (decide (0 < (y6 (A27 A) a b).length))]∧ob'=[]):=by
 refine AL.Met.intro Tryz.func26 (by decide) J J J ?_
 refine k2 (A2 (D1 (i6 2 J J J) J (A6 J J (A4 ?_))));refine k1 (k2 (A2 (A5 (E2 J J) J (A5 (N1 J J (by first | omega | decide) (by omega)) J (G7 J J J J (A5 (N1 J J (by first | omega | decide) (by omega)) J (G7 J J J J (D7 (G59 A hA a b ha hb) J J J ?_))))))));rintro _ rfl;refine A3 J J (H0 J J J (H0 J J J (A6 J J (A6 J J (A4 ?_)))));refine k1 (k2 (A2 (A3 J J (E5 J J (A5 (N4 J J) J (A6 J J (A4 ?_)))))));refine k1 (k10 ?_);refine E1 (I1 rfl rfl) (by repeat (first | exact A8 | refine A9 rfl ?_ | refine C2 _ ?_)) (ObIn.spec (ob':=[]) trivial) ⟨?_,rfl⟩
 first
  | rfl
  | (congr 1;simp)
set_option maxHeartbeats 1000000
theorem G60 {x:Int} (hx:0≤x∧x < 18446744073709551616) (c:Nat):IntKind.u64.wrap ((BitVec.ofInt IntKind.u64.bits x ||| BitVec.ofInt IntKind.u64.bits (IntKind.u64.wrap (1*2 ^ (min ((c:Int).tmod 64).toNat IntKind.u64.bits)))).toNat:Int)=orI x (2 ^ (c % 64)):=by
 obtain ⟨p,hpd⟩:∃p:Nat,p=2 ^ (c % 64):=⟨_,rfl⟩
 have hp0:p < 2 ^ 64:=by rw [hpd];exact Nat.pow_lt_pow_right (by decide) (Nat.mod_lt _ (by decide))
 have hp:p < 18446744073709551616:=hp0
 have e0:((2:Int) ^ (c % 64))=(p:Int):=by rw [hpd];simp
 have e1:IntKind.u64.wrap (1*2 ^ (c % 64))=(p:Int):=by
  rw [Int.one_mul,e0]
  exact u64_id ⟨by omega,by omega⟩
 rw [rem64,e1,e0]
 have hor0:=Nat.or_lt_two_pow (x:=x.toNat) (y:=p) (n:=64) (show x.toNat < 18446744073709551616 by omega) hp0
 have hor:x.toNat ||| p < 18446744073709551616:=hor0
 have e2:(BitVec.ofInt IntKind.u64.bits x ||| BitVec.ofInt IntKind.u64.bits (p:Int)).toNat=x.toNat ||| p:=by
  rw [BitVec.toNat_or,BitVec.toNat_ofInt,BitVec.toNat_ofInt,show ((2 ^ IntKind.u64.bits:Nat):Int)=18446744073709551616 by rfl]
  rw [show (x % 18446744073709551616).toNat=x.toNat by omega,show ((p:Int) % 18446744073709551616).toNat=p by omega]
 rw [e2,u64_id ⟨by omega,by omega⟩]
 unfold orI
 rw [K84]
theorem J21 (z:Set4) (hz:A79 z) (c:UInt8):FnOk Tryz.prog 191 [A13 z,pByte c] (fun rs=>rs=[A13 (z.with_ c.toNat)]):=by
 obtain ⟨z1,z2,z3,z4⟩:=hz
 have hd:c.toNat / 64=0∨c.toNat / 64=1∨c.toNat / 64=2∨c.toNat / 64=3:=by have:=c.toNat_lt;omega
 have hm0:0≤(c.toNat:Int).tmod 64:=Int.tmod_nonneg _ (by omega)
 refine FnOk.intro Tryz.func191 (by decide) J J J J ?_
 refine k2 (A2 (D1 (i6 2 J J J) J (D1 (I4 4 J) J (A4 ?_))));refine k1 (k2 ?_)
 rcases hd with hd | hd | hd | hd
 all_goals
  have hq4:=quo64 c.toNat_lt hd
  refine A2 (A3 J J (A5 (E32 J J (by decide)) J (A5 (s9 J J (hq4) (by decide)) J (G7 J J J J (A3 J J (A5 (B07 J J (by decide)) J (A5 (n_shl J J (by (exact hm0))) J ?_)))))));refine A5 (D38 J J J (fun _=>rfl)) J (A5 (s9 J J (hq4) (by decide)) J (H1 (C1 TySz.out J J J J J J) (A4 ?_)));refine k1 (k2 (A2 (A5 (M6 J J J) J (H1 (C1 TySz.out J J J J J J) (A4 ?_)))));refine k1 (k10 (B6 (retc J J J J J) ?_))
  unfold Set4.with_
  rw [hd]
  simp only [G60 z1,G60 z2,G60 z3,G60 z4]
def p9 (c:UInt8):Bool:=decide (c∉([40,41,91,123,42,43,63,124,46,92]:Str))
def G61 (c:UInt8):AL.Node:=if c=94 then ⟨2,set0,0,0,[]⟩ else if c=36 then ⟨3,set0,0,0,[]⟩ else ⟨1,set0.with_ c.toNat,0,0,[]⟩
def B97 (s:Str) (i:Nat):List AL.Node:=(s.take i).map G61
theorem H53 {s:Str} {i:Nat} (h:i≤s.length):(B97 s i).length=i:=by unfold B97;rw [L04,K92];omega
theorem J79 {s:Str} {i:Nat} {c:UInt8} (h:s[i]?=some c):B97 s (i+1)=B97 s i++[G61 c]:=by
 unfold B97;rw [List.take_add_one,h,Option.toList_some,L08];rfl
theorem D57 {c:UInt8} (h:p9 c=true):∀k∈([40,41,91,123,42,43,63,124,46,92]:Str),¬((c.toNat:Int)=k.toNat):=fun k hk e=>by
 have h1:=A0 h
 exact h1 (by rw [UInt8.toNat_inj.1 (Int.ofNat.inj e)];exact hk)
theorem F93:A79 set0:=⟨⟨by decide,by decide⟩,⟨by decide,by decide⟩,⟨by decide,by decide⟩,⟨by decide,by decide⟩⟩
theorem K41 {s:Str} (hsim:∀c∈s,p9 c=true) (i:Nat):∀k∈([40,41,91,123,42,43,63,124,46,92]:Str),¬s[i]?=some k:=fun k hk e=>D57 (hsim k (K93 e)) k hk rfl
theorem I62 {gf:Fr} {ob:Obs} (s:Str) (hsim:∀c∈s,p9 c=true) (a d:Nat) (ha:a≤s.length) (hs:s.length≤1000) (h0:B8 ob 810=some (L2 s a d)) :
  AL.Met Tryz.prog 149 [M3] gf ob [] (fun rs ob'=>rs=[M7 0,M7 0,A67 false]∧ob'=(810,L2 s a d)::ob):=by
 have hq:=K41 hsim a
 refine AL.Met.introH Tryz.func149 (by decide) rfl rfl rfl (fun hH=>?_)
 refine D8 (K57 (l:=[(0,.s M3)]) (ob':=(810,L2 s a d)::ob) ⟨le1 rfl,trivial⟩ hH (by repeat (first | exact A8 | refine A9 rfl ?_)) (C8 (L:=[(810,_)]) ⟨h0,trivial⟩ C0)) ?_
 refine k2 (A2 (A6 J J (A6 J J (A6 J J (A4 ?_)))));refine k1 (k2 (k3 (k2 (A2 (A3 J J (G8 (Y3 s a d 42 (hq 42 (by decide)) ha hs J) J J J ?_))))));rintro _ _ ⟨rfl,rfl⟩;refine A6 J J (A4 ?_);refine k1 ?_;refine B1 rfl (fun ht=>?_) (fun ht=>?_)
 ·cases ht
 refine k2 (A2 (A3 J J (G8 (Y3 s a d 43 (hq 43 (by decide)) ha hs J) J J J ?_)));rintro _ _ ⟨rfl,rfl⟩;refine A6 J J (A4 ?_);refine k1 ?_;refine B1 rfl (fun ht=>?_) (fun ht=>?_)
 ·cases ht
 refine k2 (A2 (A3 J J (G8 (Y3 s a d 63 (hq 63 (by decide)) ha hs J) J J J ?_)));rintro _ _ ⟨rfl,rfl⟩;refine A6 J J (A4 ?_);refine k1 ?_;refine B1 rfl (fun ht=>?_) (fun ht=>?_)
 ·cases ht
 refine k2 (A2 (A3 J J (G8 (Y3 s a d 123 (hq 123 (by decide)) ha hs J) J J J ?_)));rintro _ _ ⟨rfl,rfl⟩;refine A6 J J (A4 ?_);refine k1 ?_;refine B1 rfl (fun ht=>?_) (fun ht=>?_)
 ·cases ht
 refine k5 (k2 (A2 (A6 J J (A6 J J (A6 J J (A4 ?_))))));refine k1 (k10 ?_)
 exact E1 (rets3 rfl rfl rfl rfl) (by repeat (first | exact A8 | refine A9 rfl ?_ | refine C2 _ ?_)) (C8 (L:=[(810,_)]) ⟨rfl,trivial⟩ (by repeat (first | exact C0 | refine C4 rfl ?_))) ⟨rfl,rfl⟩
theorem D92 {gf:Fr} {ob:Obs} (s:Str) (hsim:∀c∈s,p9 c=true) (a d:Nat) (l:List AL.Node) (kind:Int) (ha:a < s.length) (hs:s.length≤1000) (hl:l.length≤1000) (h0:B8 ob 810=some (L2 s a d)) (h1:B8 ob 811=some (K8 l)) :
  AL.Met Tryz.prog 147 [M3,M7 kind] gf ob [811] (fun rs ob'=>rs=[M7 l.length]∧ob'=(810,L2 s (a+1) d)::(811,K8 (l++[⟨kind,set0,0,0,[]⟩]))::Obs.forget 811 ob):=by
 refine AL.Met.introH Tryz.func147 (by decide) rfl rfl rfl (fun hH=>?_)
 refine D8 (K58 811 (l:=[(0,.s M3),(1,.s (M7 kind))]) (L:=[(810,_),(811,_)]) ⟨le1 rfl,le1 rfl,trivial⟩ hH (by repeat (first | exact A8 | refine A9 rfl ?_)) ⟨h0,h1,trivial⟩) ?_
 refine k2 (A2 (A6 J J (A4 ?_)));refine k1 (k2 (A2 (A3 J J (A5 (B4 J) J (A5 (A7 J) J (G7 J J J J (D6 J J J (A5 (B4 J) J (A5 (A7 J) J (H1 (C1 TySz.out J J J J J J) (A4 ?_)))))))))));refine k1 (k2 (A2 (A3 J J (A3 J J (A5 (J4 J) J (D41 ((K63 Int 1 E4 17 7 J J)) (G8 (A42 s (a+1) d l ⟨kind,set0,0,0,[]⟩ hl J J) J J J ?_)))))));rintro _ _ ⟨rfl,rfl⟩;refine A6 J J (A4 ?_);refine k1 (k2 (k2 (A2 (A3 J J (G8 (p7 s (a+1) d (by omega) hs J) J J J ?_)))));rintro _ _ ⟨rfl,rfl⟩;refine A3 J J (H0 J J J (H0 J J J (A6 J J (A6 J J (A4 ?_)))));refine k1 (k2 ?_)
 by_cases hlt:a+1 < s.length
 ·obtain ⟨c,hc⟩:∃c,c=s.getD (a+1) 0:=⟨_,rfl⟩
  have hcs:p9 c=true:=hsim c (by rw [hc,K88,K82 hlt];exact K85 hlt)
  rw [decide_eq_true hlt,←hc]
  refine A2 (A3 J J (A3 J J (H4 J J J J (A3 J J (H4 J J J J (D7 (D00 [42,43,63,123] c) J J J ?_))))));rintro _ rfl;refine H4 J J J J (A5 (V4 J J) J (A5 (R3 J (rfl) J) J (A4 ?_)));refine k1 ?_;refine B1 rfl (fun ht=>?_) (fun ht=>?_)
  ·exfalso
   have h3:=(C59 c _).1 (A0 ht)
   have hsub:∀x∈([42,43,63,123]:Str),x∈([40,41,91,123,42,43,63,124,46,92]:Str):=by decide
   exact A0 hcs (hsub c h3)
  refine k5 (k1 (k2 (A2 (A3 J J (A6 J J (A4 ?_))))));refine k1 (k10 ?_)
  exact E1 (I1 rfl rfl) (by repeat (first | exact A8 | refine tail_drop rfl ?_ | refine A9 rfl ?_ | refine H2 _ ?_ | refine C2 _ ?_)) (C8 (L:=[(810,_),(811,_)]) ⟨rfl,rfl,trivial⟩ (by repeat (first | exact C0 | refine C4 rfl ?_ | refine K5 _ ?_))) ⟨rfl,rfl⟩
 rw [decide_eq_false hlt]
 refine A2 (A3 J J (A3 J J (I8 J J J (by decide) J (I8 J J J (by decide) J (I8 J J J (by decide) J (A5 (S6 J (rfl) J) J (A4 ?_)))))));refine k1 ?_;refine B1 rfl (fun ht=>?_) (fun ht=>?_)
 ·cases ht
 refine k5 (k1 (k2 (A2 (A3 J J (A6 J J (A4 ?_))))));refine k1 (k10 ?_)
 exact E1 (I1 rfl rfl) (by repeat (first | exact A8 | refine tail_drop rfl ?_ | refine A9 rfl ?_ | refine H2 _ ?_ | refine C2 _ ?_)) (C8 (L:=[(810,_),(811,_)]) ⟨rfl,rfl,trivial⟩ (by repeat (first | exact C0 | refine C4 rfl ?_ | refine K5 _ ?_))) ⟨rfl,rfl⟩
theorem J80 {gf:Fr} {ob:Obs} (c:UInt8) (hc:p9 c=true) :
  AL.Met Tryz.prog 148 [M3,U2 c] gf ob [] (fun rs ob'=>rs=[.one (.clo 177 [(810,0)] [])]∧ob'=ob):=by
 have hn:=D57 hc
 refine AL.Met.intro Tryz.func148 (by decide) J J J ?_
 refine k2 (A2 (A6 J J (A4 ?_)));refine k1 (k2 (k2 (A2 (A3 J J (A4 ?_)))));refine k1 (k3 (k2 (A2 (A5 (F7 J J) J (A6 J J (A4 ?_))))));refine k1 ?_;refine B1 rfl (fun ht=>?_) (fun ht=>?_)
 ·exact absurd (A0 ht) (hn 40 (by decide))
 refine k2 (A2 (A5 (F7 J J) J (A6 J J (A4 ?_))));refine k1 ?_;refine B1 rfl (fun ht=>?_) (fun ht=>?_)
 ·exact absurd (A0 ht) (hn 91 (by decide))
 refine k2 (A2 (A5 (F7 J J) J (A6 J J (A4 ?_))));refine k1 ?_;refine B1 rfl (fun ht=>?_) (fun ht=>?_)
 ·exact absurd (A0 ht) (hn 46 (by decide))
 refine k2 (A2 (A5 (F7 J J) J (A6 J J (A4 ?_))));refine k1 ?_;refine B1 rfl (fun ht=>?_) (fun ht=>?_)
 ·exact absurd (A0 ht) (hn 92 (by decide))
 refine k2 (k2 (A2 (A5 (F7 J J) J (A6 J J (A4 ?_)))));refine k1 ?_;refine B1 rfl (fun ht=>?_) (fun ht=>?_)
 ·exact absurd (A0 ht) (hn 42 (by decide))
 refine k2 (A2 (A5 (F7 J J) J (A6 J J (A4 ?_))));refine k1 ?_;refine B1 rfl (fun ht=>?_) (fun ht=>?_)
 ·exact absurd (A0 ht) (hn 43 (by decide))
 refine k2 (A2 (A5 (F7 J J) J (A6 J J (A4 ?_))));refine k1 ?_;refine B1 rfl (fun ht=>?_) (fun ht=>?_)
 ·exact absurd (A0 ht) (hn 63 (by decide))
 skip
 refine A2 (A5 (F7 J J) J (A6 J J (A4 ?_)));refine k1 ?_;refine B1 rfl (fun ht=>?_) (fun ht=>?_)
 ·exact absurd (A0 ht) (hn 123 (by decide))
 refine k5 (k2 (A2 (A3 J J (A5 (l4 J J) J (A6 J J (A4 ?_))))));refine k1 (k10 ?_)
 exact E1 (I1 rfl rfl) (by repeat (first | exact A8 | refine A9 rfl ?_ | refine C2 _ ?_)) (fun _ _ h=>h) ⟨rfl,rfl⟩
theorem H54 {gf:Fr} {ob:Obs} (s:Str) (a d:Nat) (c:UInt8) (l:List AL.Node) (h:s[a]?=some c) (hs:s.length≤1000) (hl:l.length≤1000) (h0:B8 ob 810=some (L2 s a d)) (h1:B8 ob 811=some (K8 l)) :
  AL.Met Tryz.prog 177 [M3] gf ob [811] (fun rs ob'=>rs=[M7 l.length]∧ob'=(810,L2 s (a+1) d)::(811,K8 (l++[⟨1,set0.with_ c.toNat,0,0,[]⟩]))::Obs.forget 811 ob):=by
 refine AL.Met.introH Tryz.func177 (by decide) rfl rfl rfl (fun hH=>?_)
 refine D8 (K58 811 (l:=[(0,.s M3)]) (L:=[(810,_),(811,_)]) ⟨le1 rfl,trivial⟩ hH (by repeat (first | exact A8 | refine A9 rfl ?_)) ⟨h0,h1,trivial⟩) ?_
 refine k2 (A2 (A6 J J (A4 ?_)));refine k1 (k2 (A2 (A3 J J (A5 (B35 J) J (A3 J J (G8 (F89 s a d c h hs J) J J J ?_))))));rintro _ _ ⟨rfl,rfl⟩;refine D7 (J21 set0 F93 c) J J J ?_;rintro _ rfl;refine G8 (E80 s (a+1) d l (set0.with_ c.toNat) hl J J) J J J ?_;rintro _ _ ⟨rfl,rfl⟩;refine A6 J J (A4 ?_);refine k1 (k10 ?_)
 exact E1 (I1 rfl rfl) (by repeat (first | exact A8 | refine tail_drop rfl ?_ | refine A9 rfl ?_ | refine H2 _ ?_ | refine C2 _ ?_)) (C8 (L:=[(810,_),(811,_)]) ⟨rfl,rfl,trivial⟩ (by repeat (first | exact C0 | refine C4 rfl ?_ | refine K5 _ ?_))) ⟨rfl,rfl⟩
theorem I63 {gf:Fr} {ob:Obs} (s:Str) (hsim:∀c∈s,p9 c=true) (hs:s.length≤256) (a d:Nat) (c:UInt8) (h:s[a]?=some c) (h0:B8 ob 810=some (L2 s a d)) (h1:B8 ob 811=some (K8 (B97 s a))) :
  AL.Met Tryz.prog 125 [M3,U2 c] gf ob [811] (fun rs ob'=>rs=[M7 a]∧ob'=(810,L2 s (a+1) d)::(811,K8 (B97 s (a+1)))::Obs.forget 811 ob):=by
 have hlt:=(List.getElem?_eq_some_iff.1 h).1
 have hll:=H53 (s:=s) (i:=a) (by omega)
 obtain ⟨l,hld⟩:∃l,l=B97 s a:=⟨_,rfl⟩
 have hnx:B97 s (a+1)=l++[G61 c]:=by rw [J79 h,hld]
 rw [←hld] at h1 hll
 have hal:(a:Int)=(l.length:Int):=by omega
 have hcs:=hsim c (K93 h)
 have hu:∀k:UInt8,(c.toNat:Int)=k.toNat→c=k:=fun k e=>UInt8.toNat_inj.1 (by omega)
 rw [hnx]
 refine AL.Met.introH Tryz.func125 (by decide) rfl rfl rfl (fun hH=>?_)
 refine D8 (K58 811 (l:=[(0,.s M3),(1,.s (U2 c))]) (L:=[(810,_),(811,_)]) ⟨le1 rfl,le1 rfl,trivial⟩ hH (by repeat (first | exact A8 | refine A9 rfl ?_)) ⟨h0,h1,trivial⟩) ?_
 refine k2 (A2 (A6 J J (A4 ?_)));refine k1 (k2 (k2 (A2 (A3 J J (A4 ?_)))));refine k1 (k3 (k2 (A2 (A5 (F7 J J) J (A6 J J (A4 ?_))))));refine k1 ?_;refine B1 rfl (fun ht=>?_) (fun ht=>?_)
 ·have hc:=hu 94 (A0 ht)
  rw [show G61 c=⟨2,set0,0,0,[]⟩ by unfold G61;rw [if_pos hc],hal]
  refine k2 (A2 (A3 J J (G8 (D92 s hsim a d l 2 hlt (by omega) (by omega) J J) J J J ?_)));rintro _ _ ⟨rfl,rfl⟩;refine A6 J J (A4 ?_);refine k1 (k10 (k12 (k11 ?_)))
  exact E1 (I1 rfl rfl) (by repeat (first | exact A8 | refine tail_drop rfl ?_ | refine A9 rfl ?_ | refine H2 _ ?_ | refine C2 _ ?_)) (C8 (L:=[(810,_),(811,_)]) ⟨rfl,rfl,trivial⟩ (by repeat (first | exact C0 | refine C4 rfl ?_ | refine K5 _ ?_))) ⟨rfl,rfl⟩
 have hc94:¬c=94:=fun e=>A1 ht (by rw [e];rfl)
 refine k2 (A2 (A5 (F7 J J) J (A6 J J (A4 ?_))));refine k1 ?_;refine B1 rfl (fun ht=>?_) (fun ht=>?_)
 ·have hc:=hu 36 (A0 ht)
  rw [show G61 c=⟨3,set0,0,0,[]⟩ by unfold G61;rw [if_neg hc94,if_pos hc],hal]
  refine k2 (A2 (A3 J J (G8 (D92 s hsim a d l 3 hlt (by omega) (by omega) J J) J J J ?_)));rintro _ _ ⟨rfl,rfl⟩;refine A6 J J (A4 ?_);refine k1 (k10 (k12 (k11 ?_)))
  exact E1 (I1 rfl rfl) (by repeat (first | exact A8 | refine tail_drop rfl ?_ | refine A9 rfl ?_ | refine H2 _ ?_ | refine C2 _ ?_)) (C8 (L:=[(810,_),(811,_)]) ⟨rfl,rfl,trivial⟩ (by repeat (first | exact C0 | refine C4 rfl ?_ | refine K5 _ ?_))) ⟨rfl,rfl⟩
 have hc36:¬c=36:=fun e=>A1 ht (by rw [e];rfl)
 rw [show G61 c=⟨1,set0.with_ c.toNat,0,0,[]⟩ by unfold G61;rw [if_neg hc94,if_neg hc36],hal]
 refine k5 (k2 (A2 (A3 J J (A3 J J (G8 (J80 c hcs) J J J ?_)))));rintro _ _ ⟨rfl,rfl⟩;refine A6 J J (A4 ?_);refine k1 (k2 (A2 (A3 J J (A85 (H54 s a d c l h (by omega) (by omega) J J) J J J J ?_))));rintro _ _ ⟨rfl,rfl⟩;refine A6 J J (A4 ?_);refine k1 (k2 (A2 (A3 J J (G8 (I62 s hsim (a+1) d (by omega) (by omega) J) J J J ?_))));rintro _ _ ⟨rfl,rfl⟩;refine A3 J J (H0 J J J (H0 J J J (H0 J J J (A6 J J (A6 J J (A6 J J (A4 ?_)))))));refine k1 (k2 (k2 (A2 (A3 J J (A5 (Q8 J) J (A4 ?_))))));refine k1 ?_;refine B1 rfl (fun ht=>?_) (fun ht=>?_)
 rotate_left
 ·cases ht
 refine k2 (A2 (A3 J J (A6 J J (A4 ?_))));refine k1 (k10 (k11 ?_))
 exact E1 (I1 rfl rfl) (by repeat (first | exact A8 | refine tail_drop rfl ?_ | refine A9 rfl ?_ | refine H2 _ ?_ | refine C2 _ ?_)) (C8 (L:=[(810,_),(811,_)]) ⟨rfl,rfl,trivial⟩ (by repeat (first | exact C0 | refine C4 rfl ?_ | refine K5 _ ?_))) ⟨rfl,rfl⟩
set_option maxHeartbeats 1000000
def l7 (n:Nat):List Int:=(List.range n).map fun i:Nat=>(i:Int)
theorem I64 (n:Nat):(l7 n).length=n:=by simp [l7]
theorem H55 (n:Nat):l7 (n+1)=l7 n++[(n:Int)]:=by unfold l7;rw [L28,L08];rfl
def B15 (s:Str):List AL.Node:=if s.length=0 then [B69] else if s.length=1 then B97 s s.length else B97 s s.length++[⟨4,set0,0,0,l7 s.length⟩]
def E97 (s:Str):Int:=if s.length≤1 then 0 else s.length
theorem I65 {gf:Fr} {ob:Obs} (s:Str) (a d:Nat) (l:List AL.Node) (kind:Int) (hl:l.length≤1000) (h0:B8 ob 810=some (L2 s a d)) (h1:B8 ob 811=some (K8 l)) :
  AL.Met Tryz.prog 88 [M3,M7 kind,.one (.p (.list Int 1 E4 []))] gf ob [811] (fun rs ob'=>rs=[M7 l.length]∧ob'=(810,L2 s a d)::(811,K8 (l++[B69]))::Obs.forget 811 ob):=by
 refine AL.Met.introH Tryz.func88 (by decide) rfl rfl rfl (fun hH=>?_)
 refine D8 (K58 811 (l:=[(0,.s M3),(1,.s (M7 kind)),(2,D3 Int 1 E4 [])]) (L:=[(810,_),(811,_)]) ⟨le1 rfl,le1 rfl,le1 rfl,trivial⟩ hH (by repeat (first | exact A8 | refine A9 rfl ?_)) ⟨h0,h1,trivial⟩) ?_
 refine k2 (A2 (A6 J J (A4 ?_)));refine k1 (k2 (k2 (A2 (A3 J J (E5 J J (A4 ?_))))));refine k1 (k3 (k2 (A2 (A5 (F7 J J) J (A6 J J (A4 ?_))))));refine k1 ?_;refine B1 rfl (fun ht=>?_) (fun ht=>?_)
 rotate_left
 ·exact absurd rfl (A1 ht)
 refine k2 (A2 (A3 J J (A5 (J4 J) J (D41 ((K63 Int 1 E4 12 7 J J)) (G8 (A42 s a d l B69 hl J J) J J J ?_)))));rintro _ _ ⟨rfl,rfl⟩;refine A6 J J (A4 ?_);refine k1 (k10 (k12 (k11 ?_)))
 exact E1 (I1 rfl rfl) (by repeat (first | exact A8 | refine tail_drop rfl ?_ | refine A9 rfl ?_ | refine H2 _ ?_ | refine C2 _ ?_)) (C8 (L:=[(810,_),(811,_)]) ⟨rfl,rfl,trivial⟩ (by repeat (first | exact C0 | refine C4 rfl ?_ | refine K5 _ ?_))) ⟨rfl,rfl⟩
theorem K42 {gf:Fr} {ob:Obs} (s:Str) (hsim:∀c∈s,p9 c=true) (hs:s.length≤256) (d:Nat) (hf:B8 ob 812=none) (h0:B8 ob 810=some (L2 s 0 d)) (h1:B8 ob 811=some (K8 [])) :
  AL.Met Tryz.prog 86 [M3] gf ob [811,812] (fun rs ob'=>rs=[M7 (E97 s)]∧ob'=(810,L2 s s.length d)::(811,K8 (B15 s))::(812,.spare (l7 s.length).length 1 3)::Obs.forget 812 (Obs.forget 811 ob)):=by
 refine AL.Met.introH Tryz.func86 (by decide) rfl rfl rfl (fun hH=>?_)
 refine D8 (K58 811 (l:=[(0,.s M3)]) (L:=[(810,_),(811,_)]) ⟨le1 rfl,trivial⟩ hH (by repeat (first | exact A8 | refine A9 rfl ?_)) ⟨h0,h1,trivial⟩) ?_
 have hf2:B8 ([(810,L2 s 0 d),(811,K8 [])]++Obs.forget 811 ob) 812=none:=by
  show B8 (Obs.forget 811 ob) 812=none
  rw [J1,hf];rfl
 refine k2 (A2 (A6 J J (A4 ?_)));refine k1 (k2 (A2 (A6 J J (A4 ?_))));refine D8 (K70 812 Int 1 E4 3 (t:=3) J hf2 J) ?_
 refine k3 ?_;refine D2 (X:=Nat) (fun i=>([(0,.s M3),(3,.s (.one (.buf 812 Int 1 E4 (l7 i))))]++C6 [811,812] gf,[(810,L2 s i d),(811,K8 (B97 s i)),(812,.spare (l7 i).length 1 3)]++Obs.forget 812 (Obs.forget 811 ob))) (fun i=>i≤s.length) (fun i=>s.length - i) 0 (Nat.zero_le _) ?_ ?_
 ·exact K57 ⟨le1 rfl,le1 rfl,trivial⟩ (D5 hH) (by repeat (first | exact A8 | refine A9 rfl ?_ | refine C2 _ ?_)) (C8 (L:=[(810,_),(811,_),(812,_)]) ⟨rfl,rfl,rfl,trivial⟩ (by repeat (first | exact C0 | refine C4 rfl ?_ | refine K5 _ ?_)))
 intro i hi
 dsimp only at hi ⊢
 have hkl:=I64 i
 have hnl:=H53 hi
 refine k3 (k2 (A2 (A3 J J (G8 (p7 s i d hi (by omega) J) J J J ?_))));rintro _ _ ⟨rfl,rfl⟩;refine A3 J J (H0 J J J (H0 J J J (A6 J J (A6 J J (A4 ?_)))));refine k1 (k2 (k2 (A2 (A3 J J (A5 (Q8 J) J (A3 J J (B3 J J J J (fun hg=>by rw [hg];exact B9 J J) ?_)))))));refine B3 J J J J (fun hg=>by rw [hg];exact F7 J J) ?_;refine K4 J J ?_;refine A3 J J (B3 J J J J (fun hg=>by rw [hg];exact B9 J J) ?_);refine B3 J J J J (fun hg=>by rw [hg];exact F7 J J) ?_;refine K4 J J ?_;refine A4 ?_;refine k1 ?_
 by_cases h3:i=s.length
 ·subst h3
  rw [decide_eq_false (Nat.lt_irrefl _)]
  refine B1 rfl (fun ht=>?_) (fun ht=>?_)
  rotate_left
  ·cases ht
  refine k2 ?_
  by_cases n0:s.length=0
  ·have e0:l7 s.length=[]:=by rw [n0];rfl
   have e1:B97 s s.length=[]:=List.length_eq_zero_iff.1 (by omega)
   have e2:B15 s=[B69]:=by unfold B15;rw [if_pos n0]
   have e3:E97 s=0:=by unfold E97;rw [if_pos (by omega)]
   rw [e1,e2,e3,e0]
   refine D8 (Sees.forget 812) ?_
   refine A2 (A3 J J (A3 J J (G8 (I65 s s.length d [] 4 (by decide) J J) J J J ?_)));rintro _ _ ⟨rfl,rfl⟩;refine A6 J J (A4 ?_);refine k1 (k10 (k11 (k12 (k11 (k12 ?_)))))
   exact E1 (I1 rfl rfl) (by repeat (first | exact A8 | refine tail_drop rfl ?_ | refine A9 rfl ?_ | refine F4 _ rfl ?_)) (C8 (L:=[(810,_),(811,_),(812,_)]) ⟨rfl,rfl,rfl,trivial⟩ (by repeat (first | exact C0 | refine C4 rfl ?_ | refine K5 _ ?_ | refine A03 _ _ ?_))) ⟨rfl,rfl⟩
  by_cases n1:s.length=1
  ·have e0:l7 s.length=[0]:=by rw [n1];rfl
   have e2:B15 s=B97 s s.length:=by unfold B15;rw [if_neg n0,if_pos n1]
   have e3:E97 s=0:=by unfold E97;rw [if_pos (by omega)]
   rw [e0,e2,e3]
   refine D8 (Sees.forget 812) ?_
   refine A2 (A3 J J (A3 J J (G8 (A43 4 0) J J J ?_)));rintro _ _ ⟨rfl,rfl⟩;refine A6 J J (A4 ?_);refine k1 (k10 (k11 (k12 (k11 (k12 ?_)))))
   exact E1 (I1 rfl rfl) (by repeat (first | exact A8 | refine tail_drop rfl ?_ | refine A9 rfl ?_ | refine F4 _ rfl ?_)) (C8 (L:=[(810,_),(811,_),(812,_)]) ⟨rfl,rfl,rfl,trivial⟩ (by repeat (first | exact C0 | refine C4 rfl ?_ | refine K5 _ ?_ | refine A03 _ _ ?_))) ⟨rfl,rfl⟩
  ·have e2:B15 s=B97 s s.length++[⟨4,set0,0,0,l7 s.length⟩]:=by unfold B15;rw [if_neg n0,if_neg n1]
   have e3:E97 s=((B97 s s.length).length:Int):=by unfold E97;rw [if_neg (by omega),hnl]
   rw [e2,e3]
   refine D8 (Sees.forget 812) ?_
   refine A2 (A3 J J (A3 J J (G8 (E82 s s.length d (B97 s s.length) 4 (l7 s.length) (by omega) (by omega) J J) J J J ?_)));rintro _ _ ⟨rfl,rfl⟩;refine A6 J J (A4 ?_);refine k1 (k10 (k11 (k12 (k11 (k12 ?_)))))
   exact E1 (I1 rfl rfl) (by repeat (first | exact A8 | refine tail_drop rfl ?_ | refine A9 rfl ?_ | refine F4 _ rfl ?_)) (C8 (L:=[(810,_),(811,_),(812,_)]) ⟨rfl,rfl,rfl,trivial⟩ (by repeat (first | exact C0 | refine C4 rfl ?_ | refine K5 _ ?_ | refine A03 _ _ ?_))) ⟨rfl,rfl⟩
 have hlt:i < s.length:=by omega
 obtain ⟨c,hc⟩:∃c,c=s.getD i 0:=⟨_,rfl⟩
 have hv:s[i]?=some c:=by rw [hc,K88,K82 hlt];rfl
 have hn:=D57 (hsim c (K93 hv))
 rw [←hc]
 refine B1 rfl (fun ht=>?_) (fun ht=>?_)
 ·exfalso
  rw [F03,F03,decide_eq_true hlt,decide_eq_false (show ¬(c.toNat:Int)=124 from hn 124 (by decide)),decide_eq_false (show ¬(c.toNat:Int)=41 from hn 41 (by decide))] at ht
  cases ht
 refine k5 (k1 (A2 (A3 J J (A3 J J (A3 J J (G8 (I63 s hsim hs i d c hv J J) J J J ?_))))));rintro _ _ ⟨rfl,rfl⟩;refine A5 (C5 (c:=E4) (ys:=[(i:Int)]) (E0 J J J J G5) J J J) J (D1 (J7 J J J (.pure _ _ _ _) (by ((try simp only [K87,K90]);omega)) J) J ?_);refine A6 J J (A4 ?_);refine k4 (k1 ?_);refine ⟨i+1,by omega,by omega,?_⟩
 rw [H55 i]
 exact K57 ⟨le1 rfl,le1 rfl,trivial⟩ (D5 hH) (by repeat (first | exact A8 | refine A9 rfl ?_ | refine F4 _ rfl ?_)) (C8 (L:=[(810,_),(811,_),(812,_)]) ⟨rfl,rfl,rfl,trivial⟩ (by repeat (first | exact C0 | refine C4 rfl ?_ | refine K5 _ ?_ | refine A03 _ _ ?_)))
theorem K43 {gf:Fr} {ob:Obs} (s:Str) (hsim:∀c∈s,p9 c=true) (hs:s.length≤256) (d:Nat) (hf:B8 ob 812=none) (h0:B8 ob 810=some (L2 s 0 d)) (h1:B8 ob 811=some (K8 [])) :
  AL.Met Tryz.prog 57 [M3] gf ob [811,812] (fun rs ob'=>rs=[M7 (E97 s)]∧ob'=(810,L2 s s.length d)::(811,K8 (B15 s))::(812,.spare (l7 s.length).length 1 3)::Obs.forget 812 (Obs.forget 811 ob)):=by
 refine AL.Met.introH Tryz.func57 (by decide) rfl rfl rfl (fun hH=>?_)
 refine k2 (A2 (A6 J J (A4 ?_)));refine k1 (k2 (A2 (A3 J J (G8 (K42 s hsim hs d hf h0 h1) J J J ?_))));rintro _ _ ⟨rfl,rfl⟩;refine A5 (C5 (c:=E4) (ys:=[E97 s]) (E0 J J J J G5) J J J) J (A6 J J (A4 ?_));refine k1 (k2 (k3 ?_));refine D2 (X:=Nat) (fun _=>([(0,.s M3),(3,D3 Int 1 E4 [E97 s])]++C6 [811,812] gf,[(810,L2 s s.length d),(811,K8 (B15 s)),(812,.spare (l7 s.length).length 1 3)]++Obs.forget 812 (Obs.forget 811 ob))) (fun _=>True) (fun i=>i) 0 trivial ?_ ?_
 ·exact K57 ⟨le1 rfl,le1 rfl,trivial⟩ (D5 hH) (by repeat (first | exact A8 | refine A9 rfl ?_ | refine C2 _ ?_)) (C8 (L:=[(810,_),(811,_),(812,_)]) ⟨rfl,rfl,rfl,trivial⟩ (by repeat (first | exact C0 | refine C4 rfl ?_)))
 intro i _
 dsimp only
 have hend:¬s[s.length]?=some 124:=by rw [K98 (Nat.le_refl _)];exact fun h=>by cases h
 refine k2 (k2 (A2 (A3 J J (G8 (Y3 s s.length d 124 hend (Nat.le_refl _) (by omega) J) J J J ?_))));rintro _ _ ⟨rfl,rfl⟩;refine A4 ?_;refine k1 ?_;refine B1 rfl (fun ht=>?_) (fun ht=>?_)
 ·cases ht
 refine k6 (k2 (A2 (A3 J J (A3 J J (G8 (A43 5 (E97 s)) J J J ?_)))));rintro _ _ ⟨rfl,rfl⟩;refine A6 J J (A4 ?_);refine k1 (k10 ?_)
 exact E1 (I1 rfl rfl) (by repeat (first | exact A8 | refine tail_drop rfl ?_ | refine A9 rfl ?_ | refine F4 _ rfl ?_)) (C8 (L:=[(810,_),(811,_),(812,_)]) ⟨rfl,rfl,rfl,trivial⟩ (by repeat (first | exact C0 | refine C4 rfl ?_ | refine K5 _ ?_ | refine A03 _ _ ?_))) ⟨rfl,rfl⟩
theorem J81 (s:Str) (hsim:∀c∈s,p9 c=true) (hs:s.length≤256):FnOk Tryz.prog 37 [J6 s] (fun rs=>rs=[s8 (B15 s),F2 0]):=by
 refine FnOk.intro Tryz.func37 (by decide) J J J J ?_
 refine k2 (A2 (D1 (I4 2 J) J (D1 (I4 3 J) J (A4 ?_))));refine k1 (k2 (k2 (A2 (A3 J J (A5 (I6 J) J (A5 (N4 J J) J (A4 ?_)))))));refine k1 ?_;refine B1 rfl (fun ht=>?_) (fun ht=>?_)
 ·have:=A0 ht
  omega
 refine k5 (k1 ?_)
 refine G36 (caps:=[.tmp 2,.tmp 3]) (nc:=[(2,0),(3,0)]) J J B92 ?_
 refine k2 (A2 (A3 J J (A5 (J4 J) J (D1 (i6 810 J J J) J (A6 J J (A4 ?_))))));refine D8 (K61 811 AL.Node 8 s7 152 (kb:=810) (o:=3) J J J) ?_
 refine k2 (A2 (A3 J J (G8 (K43 s hsim hs 0 J J J) J J J ?_)));rintro _ _ ⟨rfl,rfl⟩;refine A4 ?_;refine k1 (k2 (k2 (A2 (A3 J J (A5 (B4 J) J (A5 (A7 J) J (G7 J J J J (A3 J J (A5 (I6 J) J (F3 J J J (A4 ?_)))))))))));refine k1 ?_;refine B1 rfl (fun ht=>?_) (fun ht=>?_)
 ·have:=A0 ht
  omega
 refine k5 (k1 (k2 (A2 (A3 J J (A5 (B4 J) J (A5 (A7 J) J (G7 J J J J (H1 (C1 TySz.out J J J J J J) (H1 (C1 TySz.out J J J J J J) (A4 ?_))))))))));refine k1 (D8 (Sees.freezeG (k:=811) (α:=AL.Node) (ec:=8) (c:=s7) (xs:=B15 s) (e:=152) rfl rfl) ?_)
 refine k10 ?_
 exact B6 (rs:=[s8 (B15 s),F2 0]) (retcc rfl rfl rfl rfl rfl rfl rfl) rfl
set_option maxHeartbeats 1000000
structure GF (B:Nat) (l:List File):Prop where
 len:l.length≤4
 all:∀f∈l,f.Path.length≤3∧f.Blob.length≤B
theorem GF.few {B:Nat} {l:List File} (h:GF B l) (hB:B≤16777216):FewF l :=
 ⟨by have:=h.len;omega,fun f hf=>by have:=(h.all f hf).1;omega,fun f hf=>by have:=(h.all f hf).2;omega⟩
theorem GF.mono {B B':Nat} {l:List File} (h:GF B l) (hB:B≤B'):GF B' l:=⟨h.len,fun f hf=>⟨(h.all f hf).1,by have:=(h.all f hf).2;omega⟩⟩
theorem name4 (i:Nat) (h:i < 4):∃nm:Str,names4[((i:Nat):Int).toNat]?=some nm∧nm.length≤3:=by
 rw [K84]
 match i,h with
 | 0,_=>exact ⟨_,rfl,by decide⟩
 | 1,_=>exact ⟨_,rfl,by decide⟩
 | 2,_=>exact ⟨_,rfl,by decide⟩
 | 3,_=>exact ⟨_,rfl,by decide⟩
theorem I66 (blob:Str) (raw:List Int) (k:Int):(A89 blob raw k).length≤5*blob.length:=by
 have h1:=B38 raw k (F1 blob) 0 []
 have h2:=B98 blob
 rw [j6] at h1
 unfold A89
 simp only [K90] at h1
 omega
theorem J82 (k:Int):(l6 k).count 10=0:=by
 have h:∀s∈lineTab,s.count 10=0:=by decide
 have hr:=j2 k (n:=10) (by omega)
 have hlt:(Z9 k 10).toNat < lineTab.length:=by show _ < 10;omega
 unfold l6
 rw [K88,K82 hlt]
 exact h _ (K85 hlt)
theorem B44 (raw:List Int) (k:Int):∀(l:List Str) (i:Nat) (s:Str),(d9 raw k i s l).count 10≤s.count 10+l.flatten.count 10+l.length
 | [],i,s=>by simp [d9]
 | x::r,i,s=>by
  have h1:=B44 raw k r (i+1) s
  have h2:=B44 raw k r (i+1) (s++l6 (j3 raw (k+40+(i:Int)))++[10]++x)
  have h3:=B44 raw k r (i+1) (s++x)
  have h4:=J82 (j3 raw (k+40+(i:Int)))
  have h5:List.count (10:UInt8) [10]=1:=by decide
  simp only [List.count_append,h4,h5,L16,K87] at *
  unfold d9
  split
  ·omega
  split
  ·omega
  ·omega
theorem I67 (blob:Str) (raw:List Int) (k:Int):(A89 blob raw k).count 10≤2*blob.count 10+1:=by
 have h1:=B44 raw k (F1 blob) 0 []
 have h2:=A99 blob
 rw [j6] at h1
 unfold A89
 simp only [List.count_nil] at h1
 split at h2<;>omega
theorem E98 (k:Int):NoDig (l6 k):=by
 have h:∀s∈lineTab,∀c∈s,c.toNat < 48∨57 < c.toNat:=by decide
 have hr:=j2 k (n:=10) (by omega)
 have hlt:(Z9 k 10).toNat < lineTab.length:=by show _ < 10;omega
 unfold l6
 rw [K88,K82 hlt]
 exact h _ (K85 hlt)
theorem lf_dig:NoDig [10]:=fun c hc=>by rw [List.mem_singleton.1 hc];decide
theorem B45 (raw:List Int) (k:Int):∀(l:List Str) (i:Nat) (s:Str),NoDig s→(∀x∈l,NoDig x)→NoDig (d9 raw k i s l)
 | [],_,_,hs,_=>hs
 | x::r,i,s,hs,hl=>by
  have hx:=hl x (by simp)
  have hr:∀y∈r,NoDig y:=fun y hy=>hl y (by simp [hy])
  unfold d9
  split
  ·exact B45 raw k r _ _ hs hr
  split
  ·exact B45 raw k r _ _ (((hs.app (E98 _)).app lf_dig).app hx) hr
  ·exact B45 raw k r _ _ (hs.app hx) hr
theorem I68 {blob:Str} (h:NoDig blob) (raw:List Int) (k:Int):NoDig (A89 blob raw k) :=
 B45 raw k _ 0 [] (fun _ h=>by cases h) fun x hx=>h.sub fun c hc=>by rw [←j6 blob];exact List.mem_flatten.2 ⟨x,hx,hc⟩
theorem A95 (raw:List Int) (k kinds:Int):∀m,NoDig (Y6 raw k kinds m)
 | 0=>fun c hc=>by simp [Y6] at hc
 | m+1=>by rw [A40];exact ((A95 raw k kinds m).app (E98 _)).app lf_dig
theorem I69 (raw:List Int) (k n kinds:Int):NoDig (B37 raw k n kinds):=by
 unfold B37
 simp only
 split
 ·exact (A95 raw k kinds _).sub fun c hc=>List.mem_of_mem_take hc
 ·exact A95 raw k kinds _
theorem G62 {α:Type} {l:List α} {i:Nat} {x:α} (h:l[i]?=some x):l.take (i+1)=l.take i++[x]:=by rw [List.take_add_one,h];rfl
theorem F94 (raw:List Int) (k lines:Int) (h0:0≤k∧k≤1000000) (h1:0≤lines∧lines≤16):FnOk Tryz.prog 18 [K2 raw,F2 k,F2 lines] (fun rs=>∃l,rs=[U9 l]∧GF 64 l∧GN 64 l):=by
 refine FnOk.intro Tryz.func18 (by decide) J J J J ?_
 refine k2 (A2 (A6 J J (A4 ?_)));refine k1 (k2 (A2 (A5 (C5 (c:=R5) (ys:=names4) (E0 J J J J (E0 J J J J (E0 J J J J (E0 J J J J G5)))) J J J) J (A6 J J (A4 ?_)))));refine k1 (k2 (A2 (D1 (S9 8 _ S7 J) J (A4 ?_))));refine k1 (k2 (k2 (A2 (A6 J J (A4 ?_)))));refine k1 (k3 (D2 (X:=Nat × List File) (fun x=>([(0,D3 Int 1 E4 raw),(1,C3 k),(2,C3 lines),(7,D3 Str 1 R5 names4),(8,.s (.one (.buf 8 File 2 S7 x.2))),(9,C3 x.1)],[(8,.spare x.2.length 2 51)])) (fun x=>x.1≤4∧x.2.length≤x.1∧(∀f∈x.2,f.Path.length≤3∧f.Blob.length≤64)∧(x.2.map (·.Path)).Sublist (names4.take x.1)∧∀f∈x.2,NoDig f.Blob) (fun x=>4 - x.1) (0,[]) ⟨Nat.zero_le _,Nat.le_refl _,(fun _ h=>by cases h),List.Sublist.refl [],(fun _ h=>by cases h)⟩ (Sees.of ⟨le1 rfl,le1 rfl,le1 rfl,le1 rfl,le1 rfl,le1 rfl,trivial⟩ ⟨rfl,trivial⟩) ?_))
 rintro ⟨i,out⟩ ⟨hi,hol,hall,hsub,hdg⟩
 dsimp only at hi hol hall hsub hdg ⊢
 refine k2 (k2 (A2 (A3 J J (F3 J J J (A4 ?_)))));refine k1 ?_;refine B1 rfl (fun ht=>?_) (fun ht=>?_)
 rotate_left
 ·refine k6 (k2 (A2 (A3 J J (A6 J J (A4 ?_)))));refine k1 (k10 ?_)
  exact B6 (rs:=[U9 out]) (H3 rfl rfl rfl) ⟨out,rfl,⟨by omega,hall⟩,hsub.trans (List.take_sublist _ _),fun f hf=>Nat.le_trans List.count_le_length (hall f hf).2,hdg⟩
 have hlt:i < 4:=by have h1:=A0 ht;(try dsimp only at h1);omega
 obtain ⟨nm,hnm,hnl⟩:=name4 i hlt
 have htk:names4.take (i+1)=names4.take i++[nm]:=G62 (by rw [←hnm,K84])
 refine k5 (k1 (k2 (k3 (k2 (A2 (A3 J J (A3 J J (A3 J J (D6 J J J (D7 (A66 raw (k+(i:Int)) (by omega) (by omega)) J J J ?_))))))))));rintro _ rfl;refine A5 (B07 J J (by omega)) J (A5 (N4 J J) J (A4 ?_));refine k1 ?_;refine B1 rfl (fun ht=>?_) (fun ht=>?_)
 ·have hbl:=I22 raw (k+10+20*(i:Int)) lines 4 h1.1
  skip
  refine E8 (by kernel_rfl) (by kernel_rfl) (E3 J J (E3 J J (E3 J J (B5 (B2 J (.pure _ _ _ _) J (by omega) hnm) J J (B5 (B0 J J) J J (E3 J J (E3 J J (B5 (X0 J J (by omega)) J J (E3 J J (B5 (A34 J J (by omega)) J J (B5 (X0 J J (by omega)) J J (E3 J J (B5 (O6 (blob_ok raw (k+10+20*(i:Int)) lines 4 (by omega) (by omega) (by omega)) J J) J J (B5 (J4 J) J J (B5 (C5 (c:=S7) (ys:=[⟨nm,B37 raw (k+10+20*(i:Int)) lines 4⟩]) (E0 J J J J G5) J J J) J J (I11 (J7 J J J (.pure _ _ _ _) (by (simp only [K87,K90];omega)) J) J J (B5 (I2 J J) J J (P2 ?_))))))))))))))))));refine k4 (k1 (A2 (A3 J J (D6 J J J (A6 J J (A4 ?_))))));refine k1 ?_;refine ⟨(i+1,out++[⟨nm,B37 raw (k+10+20*(i:Int)) lines 4⟩]),⟨hlt,by rw [K86,List.length_singleton];omega,fun f hf=>?_,by dsimp only;rw [htk,L08];exact hsub.append (List.Sublist.refl _),fun f hf=>?_⟩,by dsimp only;omega,(Sees.of ⟨le1 rfl,le1 rfl,le1 rfl,le1 rfl,le1 rfl,le1 rfl,trivial⟩ ⟨rfl,trivial⟩)⟩
  ·rcases List.mem_append.1 hf with hf | hf
   ·exact hall f hf
   ·rw [List.mem_singleton.1 hf];exact ⟨hnl,by dsimp only;omega⟩
  ·rcases List.mem_append.1 hf with hf | hf
   ·exact hdg f hf
   ·rw [List.mem_singleton.1 hf];exact I69 _ _ _ _
 ·refine k5 (k4 (k1 (A2 (A3 J J (D6 J J J (A6 J J (A4 ?_)))))));refine k1 ?_
  exact ⟨(i+1,out),⟨hlt,by dsimp only;omega,hall,by dsimp only;rw [htk];exact hsub.trans (List.sublist_append_left _ _),hdg⟩,by dsimp only;omega,(Sees.of ⟨le1 rfl,le1 rfl,le1 rfl,le1 rfl,le1 rfl,le1 rfl,trivial⟩ ⟨rfl,trivial⟩)⟩
theorem I70 (l:List File) (raw:List Int) (k lines:Int) (B L:Nat) (hl:GF B l) (hN:GN L l) (hL:32≤L) (hB:B≤3000000) (h0:0≤k∧k≤1000000) (h1:0≤lines∧lines≤16):FnOk Tryz.prog 19 [U9 l,K2 raw,F2 k,F2 lines] (fun rs=>∃l',rs=[U9 l']∧GF (5*B+64) l'∧GN (2*L+1) l'):=by
 have hll:=hl.len
 refine FnOk.intro Tryz.func19 (by decide) J J J J ?_
 refine k2 (A2 (A6 J J (A4 ?_)));refine k1 (k2 (A2 (D1 (S9 9 _ S7 J) J (A4 ?_))));refine k1 (k2 (A2 (A3 J J (A3 J J (D6 J J J (D7 (A66 raw (k+3) (by omega) (by omega)) J J J ?_))))));rintro _ rfl;refine D7 (C68 (j3 raw (k+3)) 4 (by omega) (by omega)) J J J ?_;rintro _ rfl;refine A6 J J (A4 ?_)
 obtain ⟨m,hm⟩:∃m,m=Z9 (j3 raw (k+3)) 4:=⟨_,rfl⟩
 rw [←hm]
 refine k1 (k2 (k2 (A2 (A6 J J (A4 ?_)))));refine k1 (k3 (D2 (X:=Nat × List File) (fun x=>([(0,D3 File 2 S7 l),(1,D3 Int 1 E4 raw),(2,C3 k),(3,C3 lines),(9,.s (.one (.buf 9 File 2 S7 x.2))),(10,C3 m),(11,C3 x.1)],[(9,.spare x.2.length 2 51)])) (fun x=>x.1≤l.length∧x.2.length≤x.1∧(∀f∈x.2,f.Path.length≤3∧f.Blob.length≤5*B+64)∧(x.2.map (·.Path)).Sublist ((l.take x.1).map (·.Path))∧(∀f∈x.2,f.Blob.count 10≤2*L+1)∧∀f∈x.2,NoDig f.Blob) (fun x=>l.length - x.1) (0,[]) ⟨Nat.zero_le _,Nat.le_refl _,(fun _ h=>by cases h),List.Sublist.refl [],(fun _ h=>by cases h),(fun _ h=>by cases h)⟩ (Sees.of ⟨le1 rfl,le1 rfl,le1 rfl,le1 rfl,le1 rfl,le1 rfl,le1 rfl,trivial⟩ ⟨rfl,trivial⟩) ?_))
 rintro ⟨i,out⟩ ⟨hi,hol,hall,hsub,hcn,hdg⟩
 dsimp only at hi hol hall hsub hcn hdg ⊢
 refine k2 (k2 (A2 (A3 J J (A3 J J (E5 J J (F3 J J J (A4 ?_)))))));refine k1 ?_;refine B1 rfl (fun ht=>?_) (fun ht=>?_)
 rotate_left
 ·refine k6 (k2 (k2 (A2 (A3 J J (A5 (Z2 J (.buf _ _ _ _ _)) J (A5 (F7 J J) J (A4 ?_)))))));refine k1 ?_;refine B1 rfl (fun ht=>?_) (fun ht=>?_)
  ·refine k2 (A2 (A3 J J (A3 J J (A3 J J (D7 (F94 raw k lines h0 h1) J J J ?_)))));rintro _ ⟨l',rfl,hl',hn'⟩;refine A6 J J (A4 ?_);refine k1 (k10 (k11 ?_))
   exact B6 (rs:=[U9 l']) (H3 rfl rfl rfl) ⟨l',rfl,hl'.mono (by omega),hn'.mono (by omega)⟩
  ·refine k5 (k1 (k2 (A2 (A3 J J (A6 J J (A4 ?_))))));refine k1 (k10 ?_)
   exact B6 (rs:=[U9 out]) (H3 rfl rfl rfl) ⟨out,rfl,⟨by omega,hall⟩,(hsub.trans ((List.take_sublist _ _).map _)).trans hN.sub,hcn,hdg⟩
 have hlt:i < l.length:=by have h1:=A0 ht;(try dsimp only at h1);omega
 obtain ⟨f,hf⟩:∃f,f=l[i]:=⟨_,rfl⟩
 have hv:l[i]?=some f:=by rw [hf];simp [hlt]
 obtain ⟨hfp,hfb⟩:=hl.all f (by rw [hf];exact K85 hlt)
 have hnl:=I66 f.Blob raw (k+7)
 have hnc:=I67 f.Blob raw (k+7)
 have hfc:=hN.cnt f (by rw [hf];exact K85 hlt)
 have hfd:=hN.dig f (by rw [hf];exact K85 hlt)
 have htk:(l.take (i+1)).map (·.Path)=(l.take i).map (·.Path)++[f.Path]:=by rw [G62 hv,L08];rfl
 refine k5 (k1 (k2 (k3 (k2 (A2 (A3 J J (A3 J J (A5 (B2 J (.pure _ _ _ _) J (by omega) hv) J (A5 (E2 J J) J (D1 (I4 12 J) J (H1 (C1 TySz.out J J J J J J) (A4 ?_))))))))))));refine k1 (k2 (k2 (A2 (A3 J J (A3 J J (A5 (F7 J J) J (A4 ?_)))))));refine k1 ?_;refine B1 rfl (fun ht=>?_) (fun ht=>?_)
 ·refine k2 (A2 (A5 (A7 J) J (G7 J J J J (A3 J J (A3 J J (D6 J J J (D7 (near_ok f.Blob raw (k+7) (by omega) (by omega)) J J J ?_)))))));rintro _ rfl;refine A5 (A7 J) J (H1 (C1 TySz.out J J J J J J) (A4 ?_));refine k1 (k2 (A2 (A3 J J (A3 J J (D6 J J J (D7 (A66 raw (k+5) (by omega) (by omega)) J J J ?_))))));rintro _ rfl;refine A5 (B07 J J (by omega)) J (A5 (F7 J J) J (A4 ?_));refine k1 ?_;refine B1 rfl (fun ht=>?_) (fun ht=>?_)
  ·refine k6 (k7 (k8 J (k1 (A2 (A3 J J (D6 J J J (A6 J J (A4 ?_))))))));refine k1 ?_
   exact ⟨(i+1,out),⟨hlt,by dsimp only;omega,hall,by dsimp only;rw [htk];exact hsub.trans (List.sublist_append_left _ _),hcn,hdg⟩,by dsimp only;omega,(Sees.of ⟨le1 rfl,le1 rfl,le1 rfl,le1 rfl,le1 rfl,le1 rfl,le1 rfl,trivial⟩ ⟨rfl,trivial⟩)⟩
  ·refine k5 (k1 (A2 (A3 J J (A5 (M6 J J J) J (A5 (C5 (c:=S7) (ys:=[⟨f.Path,A89 f.Blob raw (k+7)⟩]) (E0 J J J J G5) J J J) J (D1 (J7 J J J (.pure _ _ _ _) (by (simp only [K87,K90];omega)) J) J (A6 J J (A4 ?_))))))));refine k4 (k1 (A2 (A3 J J (D6 J J J (A6 J J (A4 ?_))))));refine k1 ?_;refine ⟨(i+1,out++[⟨f.Path,A89 f.Blob raw (k+7)⟩]),⟨hlt,by rw [K86,List.length_singleton];omega,fun x hx=>?_,by dsimp only;rw [htk,L08];exact hsub.append (List.Sublist.refl _),fun x hx=>?_,fun x hx=>?_⟩,by dsimp only;omega,(Sees.of ⟨le1 rfl,le1 rfl,le1 rfl,le1 rfl,le1 rfl,le1 rfl,le1 rfl,trivial⟩ ⟨rfl,trivial⟩)⟩
   ·rcases List.mem_append.1 hx with hx | hx
    ·exact hall x hx
    ·rw [List.mem_singleton.1 hx];exact ⟨hfp,by dsimp only;omega⟩
   ·rcases List.mem_append.1 hx with hx | hx
    ·exact hcn x hx
    ·rw [List.mem_singleton.1 hx];dsimp only;omega
   ·rcases List.mem_append.1 hx with hx | hx
    ·exact hdg x hx
    ·rw [List.mem_singleton.1 hx];exact I68 hfd raw (k+7)
 ·refine k5 (k1 (A2 (A3 J J (A5 (M6 J J J) J (A5 (C5 (c:=S7) (ys:=[f]) (E0 J J J J G5) J J J) J (D1 (J7 J J J (.pure _ _ _ _) (by (simp only [K87,K90];omega)) J) J (A6 J J (A4 ?_))))))));refine k4 (k1 (A2 (A3 J J (D6 J J J (A6 J J (A4 ?_))))));refine k1 ?_;refine ⟨(i+1,out++[f]),⟨hlt,by rw [K86,List.length_singleton];omega,fun x hx=>?_,by dsimp only;rw [htk,L08];exact hsub.append (List.Sublist.refl _),fun x hx=>?_,fun x hx=>?_⟩,by dsimp only;omega,(Sees.of ⟨le1 rfl,le1 rfl,le1 rfl,le1 rfl,le1 rfl,le1 rfl,le1 rfl,trivial⟩ ⟨rfl,trivial⟩)⟩
  ·rcases List.mem_append.1 hx with hx | hx
   ·exact hall x hx
   ·rw [List.mem_singleton.1 hx];exact ⟨hfp,by omega⟩
  ·rcases List.mem_append.1 hx with hx | hx
   ·exact hcn x hx
   ·rw [List.mem_singleton.1 hx];omega
  ·rcases List.mem_append.1 hx with hx | hx
   ·exact hdg x hx
   ·rw [List.mem_singleton.1 hx];exact hfd
set_option maxHeartbeats 1000000
structure GG (B:Nat) (g:Graph):Prop where
 len:g.length≤16
 pars:∀c∈g,c.Parents.length≤3∧∀p∈c.Parents,0≤p∧p < (g.length:Int)
 files:∀c∈g,GF B c.Files
theorem GG.few {B:Nat} {g:Graph} (h:GG B g) (hB:B≤16777216):FewT g :=
 ⟨⟨by have:=h.len;omega,fun c hc=>by have:=(h.pars c hc).1;omega⟩,fun c hc=>(h.files c hc).few hB⟩
theorem GG.short {B:Nat} {g:Graph} (h:GG B g):Short g:=fun c=>by
 unfold L1
 by_cases hc:c < g.length
 ·rw [K82 hc]
  have:=(h.files _ (K85 hc)).len
  show g[c].Files.length≤6
  omega
 ·rw [K98 (by omega)];simp
structure GU (L:Nat) (g:Graph):Prop where
 up:∀c p:Nat,(p:Int)∈E6 g c→p < c
 nice:∀c∈g,c.Parents.Nodup∧0≤c.Date∧c.Date≤5
 tree:∀c∈g,GN L c.Files
theorem GU.valid {B L:Nat} {g:Graph} (h:GG B g) (hB:B≤1048576) (hL:L≤2111) (hw:OneWay g) (hn:∀c∈g,c.Parents.Nodup∧0≤c.Date∧c.Date≤5) (ht:∀c∈g,GN L c.Files):GV g where
 len:=h.len
 pars:=fun c hc=>⟨(h.pars c hc).1,(h.pars c hc).2,hn c hc⟩
 way:=hw
 files:=fun c hc=>⟨(ht c hc).mono hL,fun f hf=>by have:=((h.files c hc).all f hf).2;omega⟩
theorem I71 {g:Graph} {k:Nat} {x:Commit} (j:Nat) {p:Int} (h:p∈E6 (g.set k x) j):(j=k∧p∈x.Parents)∨p∈E6 g j:=by
 unfold E6 at h ⊢
 rw [L36] at h
 split at h
 ·rename_i e
  split at h
  ·exact .inl ⟨e.symm,h⟩
  ·cases h
 ·exact .inr h
theorem I72 (n:Int) {l:List Int} (h:l.Nodup):(l.map fun q=>n - 1 - q).Nodup:=by
 rw [List.nodup_iff_pairwise_ne,List.pairwise_map]
 exact h.imp fun {a b} hab e=>hab (by omega)
theorem I73 (g:Graph) (raw:List Int) (B L:Nat) (hg:GG B g) (hu:GU L g) (hB:B≤1048576) (hL:L≤2111):FnOk Tryz.prog 20 [J8 g,K2 raw] (fun rs=>∃g',rs=[J8 g']∧GG B g'∧GV g'):=by
 have hgl:=hg.len
 refine FnOk.intro Tryz.func20 (by decide) J J J J ?_
 refine k2 (A2 (A6 J J (A4 ?_)));refine k1 (k2 (k2 (A2 (A3 J J (D7 (A66 raw 3 (by omega) (by omega)) J J J ?_)))));rintro _ rfl;refine A5 (B07 J J (by omega)) J (A5 (F7 J J) J (A4 ?_));refine k1 ?_;refine B1 rfl (fun ht=>?_) (fun ht=>?_)
 ·refine k2 (A2 (A3 J J (A6 J J (A4 ?_))));refine k1 (k10 (k11 ?_))
  exact B6 (rs:=[J8 g]) (H3 rfl rfl rfl) ⟨g,rfl,hg,GU.valid hg hB hL (.inl hu.up) hu.nice hu.tree⟩
 refine k5 (k1 (k2 (A2 (A3 J J (E5 J J (A6 J J (A4 ?_)))))));refine k1 (k2 (A2 (A3 J J (D1 (o5 760 Commit G6 ⟨[],0,[]⟩ J J (by omega) (by omega) (fun _=>by first | exact ⟨⟨rfl,rfl⟩,trivial⟩ | exact ⟨H8 _ _ _,trivial⟩ | exact ⟨H8 _ _ _,⟨rfl,rfl⟩,H8 _ _ _,trivial⟩) (by first | rfl | (simp [K0,K3,Ob.free,SV.free,S1.free,TC.free]<;>rfl))) J ?_))));refine A6 J J (A4 ?_)
 rw [K84]
 refine k1 ?_;refine k2 ?_;refine k2 ?_;refine A2 ?_;refine A6 rfl rfl ?_;refine A4 ?_;refine k1 ?_;refine k3 ?_;refine D2 (X:=Nat × List Commit) (fun x=>([(0,D3 Commit 3 G6 g),(5,C3 g.length),(6,.s (.one (.mut 760))),(7,C3 x.1)],[(760,.arr Commit 3 G6 x.2)])) (fun x=>x.1≤g.length∧x.2.length=g.length∧(∀y∈x.2,y.Parents.length≤3∧∀p∈y.Parents,0≤p∧p < (g.length:Int))∧(∀y∈x.2,GF B y.Files)∧(∀y∈x.2,(y.Parents.Nodup∧0≤y.Date∧y.Date≤5)∧GN L y.Files)∧∀j p:Nat,(p:Int)∈E6 x.2 j→j < p) (fun x=>g.length - x.1) (0,List.replicate g.length ⟨[],0,[]⟩) ⟨Nat.zero_le _,L13,fun y hy=>by rw [(List.mem_replicate.1 hy).2];exact ⟨by simp,fun p hp=>by cases hp⟩,fun y hy=>by rw [(List.mem_replicate.1 hy).2];exact ⟨by simp,fun f hf=>by cases hf⟩,fun y hy=>by rw [(List.mem_replicate.1 hy).2];exact ⟨⟨List.nodup_nil,by decide,by decide⟩,List.nil_sublist _,(fun f hf=>by cases hf),fun f hf=>by cases hf⟩,fun j p h=>by
  unfold E6 at h
  rw [List.getElem?_replicate] at h
  split at h<;>cases h⟩ (Sees.of ⟨le1 rfl,le1 rfl,le1 rfl,le1 rfl,trivial⟩ ⟨rfl,trivial⟩) ?_
 rintro ⟨c,o⟩ ⟨hc,hol,hop,hof,hon,hoj⟩
 dsimp only at hc hol hop hof hon hoj ⊢
 refine k2 (k2 (A2 (A3 J J (A3 J J (F3 J J J (A4 ?_))))));refine k1 ?_;refine B1 rfl (fun ht=>?_) (fun ht=>?_)
 rotate_left
 ·refine k6 (k2 (D8 (Sees.freeze (k:=760) J) ?_))
  refine A2 (A3 J J (A6 J J (A4 ?_)));refine k1 (k10 ?_)
  exact B6 (rs:=[J8 o]) (H3 rfl rfl rfl) ⟨o,rfl,⟨by omega,by rw [hol];exact hop,hof⟩,GU.valid (B:=B) ⟨by omega,by rw [hol];exact hop,hof⟩ hB hL (.inr hoj) (fun y hy=>(hon y hy).1) fun y hy=>(hon y hy).2⟩
 have hlt:c < g.length:=by have h1:=A0 ht;(try dsimp only at h1);omega
 obtain ⟨cm,hcm⟩:∃cm,cm=g[c]:=⟨_,rfl⟩
 have hv:g[c]?=some cm:=by rw [hcm];simp [hlt]
 have hm:cm∈g:=by rw [hcm];exact K85 hlt
 obtain ⟨hp3,hpr⟩:=hg.pars cm hm
 have hcf:=hg.files cm hm
 have hcn:=hu.nice cm hm
 have hct:=hu.tree cm hm
 have hcu:∀q∈cm.Parents,q < (c:Int):=fun q hq=>by
  have h1:=hu.up c q.toNat (by rw [S8 hlt,←hcm,Int.toNat_of_nonneg (hpr q hq).1];exact hq)
  have:=(hpr q hq).1
  omega
 refine k5 (k1 (k2 (k3 (k2 (A2 (A3 J J (A3 J J (A5 (B2 J (.pure _ _ _ _) J (by omega) hv) J (A5 (E2 J J) J (D1 (I4 8 J) J (H1 (C1 TySz.out J J J J J J) (A4 ?_))))))))))));refine k1 (k2 (A2 (A5 (A7 J) J (H1 (C1 TySz.out J J J J J J) (A4 ?_)))));refine k1 (k2 (k2 (D8 (K69 753 Int 1 E4 3 (kb:=8) (o:=0) J J J) ?_)))
 refine A2 (A6 J J (A4 ?_));refine k1 (k3 (D2 (X:=Nat × List Int) (fun x=>([(0,D3 Commit 3 G6 g),(5,C3 g.length),(6,.s (.one (.mut 760))),(7,C3 c),(8,.s (.one (.ref 8 0))),(9,C3 x.1)],[(8,.box [.buf 753 Int 1 E4 x.2,.p (.v (.int .i64 cm.Date)),.p (.list File 2 S7 cm.Files)]),(753,.spare x.2.length 1 3),(760,.arr Commit 3 G6 o)])) (fun x=>x.1≤cm.Parents.length∧x.2=(cm.Parents.take x.1).map fun q=>(g.length:Int) - 1 - q) (fun x=>cm.Parents.length - x.1) (0,[]) ⟨Nat.zero_le _,rfl⟩ (Sees.of ⟨le1 rfl,le1 rfl,le1 rfl,le1 rfl,le1 rfl,le1 rfl,trivial⟩ ⟨rfl,rfl,rfl,trivial⟩) ?_))
 rintro ⟨p,ps⟩ ⟨hp,hpe⟩
 dsimp only at hp hpe ⊢
 have hpl:ps.length=p:=by rw [hpe,L04,K92];omega
 refine k2 (k2 (A2 (A3 J J (A3 J J (A3 J J (A5 (B2 J (.pure _ _ _ _) J (by omega) hv) J (A5 (B7 J) J (A5 (B0 J J) J (E5 J J (F3 J J J (A4 ?_)))))))))));refine k1 ?_;refine B1 rfl (fun ht=>?_) (fun ht=>?_)
 ·have hplt:p < cm.Parents.length:=by have h1:=A0 ht;(try dsimp only at h1);omega
  obtain ⟨q,hq⟩:∃q,q=cm.Parents[p]:=⟨_,rfl⟩
  have hvq:cm.Parents[p]?=some q:=by rw [hq];simp [hplt]
  have hqr:=hpr q (by rw [hq];exact K85 hplt)
  refine k5 (k1 (k2 (k3 (E8 (by kernel_rfl) (by kernel_rfl) (B5 (A7 J) J J (B5 (C9 J J J) J J (E3 J J (B5 (L7 J J (by omega)) J J (E3 J J (E3 J J (B5 (B2 J (.pure _ _ _ _) J (by omega) hv) J J (B5 (B7 J) J J (B5 (B0 J J) J J (E3 J J (B5 (B2 J (.pure _ _ _ _) J (by omega) hvq) J J (B5 (B0 J J) J J (B5 (L7 J J (by omega)) J J (B5 (C5 (c:=E4) (ys:=[(g.length:Int) - 1 - q]) (E0 J J J J G5) J J J) J J (I11 (J7 J J J (.pure _ _ _ _) (by (simp only [K87,K90];omega)) J) J J (B5 (A7 J) J J (d_eff (C1 TySz.out J J J J J J) J (P2 ?_))))))))))))))))))))));refine k4 (k1 (A2 (A3 J J (D6 J J J (A6 J J (A4 ?_))))));refine k1 ?_;refine ⟨(p+1,ps++[(g.length:Int) - 1 - q]),⟨hplt,by dsimp only;rw [G62 hvq,L08,←hpe];rfl⟩,by dsimp only;omega,(Sees.of ⟨le1 rfl,le1 rfl,le1 rfl,le1 rfl,le1 rfl,le1 rfl,trivial⟩ ⟨rfl,rfl,rfl,trivial⟩)⟩
 have hge:¬(p:Int) < cm.Parents.length:=A1 ht
 have hpa:ps=cm.Parents.map fun q=>(g.length:Int) - 1 - q:=by rw [hpe,L09 (by omega)]
 have hps:∀x∈ps,0≤x∧x < (g.length:Int):=fun x hx=>by
  rw [hpa] at hx
  obtain ⟨q,hq,rfl⟩:=List.mem_map.1 hx
  have:=hpr q hq
  omega
 have hi:0≤(g.length:Int) - 1 - c∧(g.length:Int) - 1 - c < o.length:=by omega
 have hvo:o[((g.length:Int) - 1 - c).toNat]?=some o[((g.length:Int) - 1 - c).toNat]:=K82 (by omega)
 refine k6 (k7 (k7 (k8 J (k1 (A2 (A3 J J (A3 J J (A5 (L7 J J (by omega)) J (A3 J J (A5 (L7 J J (by omega)) J (A5 (M6 J J J) J (A5 (G4 J J J (by omega) (by omega)) J (H1 (C90 (y:=⟨ps,cm.Date,cm.Files⟩) TySz.out J J hvo J J J J (fun _ _ us h=>by first | exact o7 h | (match us,h with | [_,_,_],h=>exact ⟨h.1.2,h.2.1,h.2.2.1,trivial⟩)) (by intro j h1 h2;rcases j with _ | _ | _ | j<;>first | rfl | omega)) ?_)))))))))))));refine A4 ?_;refine k4 (k1 (A2 (A3 J J (D6 J J J (A6 J J (A4 ?_))))));refine k1 ?_;refine ⟨(c+1,o.set ((g.length:Int) - 1 - c).toNat ⟨ps,cm.Date,cm.Files⟩),⟨hlt,by dsimp only;rw [L06];exact hol,fun y hy=>?_,fun y hy=>?_,fun y hy=>?_,fun j p hj=>?_⟩,by dsimp only;omega,(Sees.of ⟨le1 rfl,le1 rfl,le1 rfl,le1 rfl,trivial⟩ ⟨rfl,trivial⟩)⟩
 ·rcases List.mem_or_eq_of_mem_set hy with hy | rfl
  ·exact hop y hy
  ·exact ⟨by dsimp only;omega,hps⟩
 ·rcases List.mem_or_eq_of_mem_set hy with hy | rfl
  ·exact hof y hy
  ·exact hcf
 ·rcases List.mem_or_eq_of_mem_set hy with hy | rfl
  ·exact hon y hy
  ·exact ⟨⟨by rw [hpa];exact I72 _ hcn.1,hcn.2⟩,hct⟩
 ·rcases I71 j hj with ⟨e,h1⟩ | h1
  ·dsimp only at h1
   rw [hpa] at h1
   obtain ⟨q,hq,e2⟩:=List.mem_map.1 h1
   have:=hcu q hq
   omega
  ·exact hoj j p h1
end Go.Proofs.YtkahafmcmiiolaaGreatDoor
