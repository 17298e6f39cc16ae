/- Walks of the program's functions. -/
import Derived.Test.YtkahafmcmiiolaaGreatDoorFc
import Derived.Test.YtkahafmcmiiolaaGreatDoorFd
import Derived.Test.YtkahafmcmiiolaaGreatDoorFs
import Derived.Test.YtkahafmcmiiolaaGreatDoorFb
import Derived.Test.YtkahafmcmiiolaaGreatDoorFa
set_option linter.unusedSimpArgs false
namespace Go.Proofs.YtkahafmcmiiolaaGreatDoor
open Go Go.AL
set_option maxRecDepth 100000
set_option maxHeartbeats 1000000
abbrev B03 (ns:List AL.Node) (w:List Int):Ob:=.box [.p (.list AL.Node 8 w9 ns),.p (.list Int 1 F0 w),.mut 821]
abbrev i8 (l:List AL.State):Ob:=.grow 117 AL.State 7 A20 l
abbrev B04:S1:=.one (.ref 820 0)
theorem J9 {K:List Nat} {T rest:Obs} {k:Nat} (hn:B4 rest k=none) (h:∀j x,K8 K j=false→B4 rest j=some x→B4 T j=some x):∀j x,K8 K j=false→B4 rest j=some x→B4 (Obs.drop k T) j=some x:=by
 intro j x hj hx
 have:j≠k:=fun e=>by rw [e,hn] at hx;cases hx
 rw [A81 this]
 exact h j x hj hx
theorem n5 {gf:Fr} {ob:Obs} {ns:List AL.Node} {w:List Int} (l:List AL.State) (q:AL.State) (hl:l.length≤100000) (h0:B4 ob 820=some (B03 ns w)) (h1:B4 ob 821=some (i8 l)) :
  AL.Met Tryz.prog 60 [B04,(H85 q).s1] gf ob [821] (fun rs ob'=>rs=[M3 l.length]∧ob'=(820,B03 ns w)::(821,i8 (l++[q]))::Obs.forget 821 ob):=by
 refine AL.Met.introH Tryz.func60 (by decide) rfl rfl rfl (fun hH=>?_)
 refine D9 (J37 821 (l:=[(0,.s B04),(1,.s (H85 q).s1)]) (L:=[(820,_),(821,_)]) ⟨le1 rfl,le1 rfl,trivial⟩ hH (by repeat (first | exact A8 | refine A9 rfl ?_)) ⟨h0,h1,trivial⟩) ?_
 refine k2 (A2 (A5 (m9 J J J) J (A6 J J (A4 ?_))));refine k1 (k2 ?_);refine D9 (J36 (gf':=Fr.forget 821 gf) (l:=[(0,.s B04),(3,.s (.one (.eref Unit 7 (fun _ j=>(cellsOf A20 q 0 7).getD j (.v undef)) () 0)))]) (ob':=[(820,B03 ns w),(821,i8 l)]++Obs.forget 821 ob) ⟨le1 rfl,le1 rfl,trivial⟩ (A32 hH) (by repeat (first | exact A8 | refine A9 rfl ?_)) (fun _ _ h=>h)) ?_
 refine N6 [10,7] [[],[7],[10,7]] [(7,([821],[9])),(10,([],[]))] [(0,[]),(1,[]),(2,[]),(3,[]),(4,[]),(5,[]),(6,[]),(7,[]),(8,[7]),(9,[7]),(10,[7])] [(0,[7])] (by kernel_rfl) (by kernel_rfl) (E2 J J (by kernel_rfl) J J (C8 J J) (E2 J J (by kernel_rfl) J J (C8 J J) (E2 J J (by kernel_rfl) J J (B2 J) (E2 J J (by kernel_rfl) J J (A7 J) (E2 J J (by kernel_rfl) J J (C6 J J J) (E2 J J (by kernel_rfl) J J (E3 J J) (E2 J J (by kernel_rfl) J J (D1 (c:=A20) (ys:=[q]) (E5 J J J J H1) J J J) (U9 J J (by kernel_rfl) J J (D04 (fun frc hU=>Q8 (Q5 hU J) J (Q5 hU J) (.pure _ _ _ _) (by (simp only [J64,J68];omega)) J)) J (E2 J J (by kernel_rfl) J J (B2 J) (E2 J J (by kernel_rfl) J J (A7 J) (U9 J J (by kernel_rfl) J J (A34 (fun frc hU=>C4 TySz.out (Q5 hU J) J (Q5 hU J) J J J)) J ?_)))))))))));refine D05 (ks:=[821]) rfl (by kernel_rfl) rfl ?_ ?_
 ·refine M2 J J (by kernel_rfl) J J (C8 J J) ?_;exact B41
 refine k1 (k2 (A2 (A3 J J (A5 (B2 J) J (A5 (A7 J) J (G3 J J J J (A5 (T3 J J) J (A5 (K1 J J (by (simp only [J63,List.length_singleton];omega))) J (A6 J J (A4 ?_))))))))));refine k1 (k10 ?_);refine E0 (H9 rfl rfl) (by repeat (first | exact A8 | refine tail_drop rfl ?_ | refine A9 rfl ?_ | refine H2 _ ?_ | refine B6 _ ?_)) (C9 (L:=[(820,_),(821,_)]) ⟨rfl,rfl,trivial⟩ (by repeat (first | exact B8 | refine C0 rfl ?_ | refine J3 _ ?_))) ⟨?_,rfl⟩
 rw [J63,List.length_singleton]
 congr 5
 omega
section
variable (ns:List AL.Node) (w:List Int)
theorem Z1:∀f:Nat,(∀i next st st' r,T0 ns w f i next st=some (st',r)→st.length≤st'.length)∧(∀ks next st st' r,catB ns w f ks next st=some (st',r)→st.length≤st'.length)∧(∀ks next s0 st st' r,G13 ns w f ks next s0 st=some (st',r)→st.length≤st'.length) ∧
  (∀kid m last next st st' r,E75 ns w f kid m last next st=some (st',r)→st.length≤st'.length)∧(∀kid m next st st' r,E76 ns w f kid m next st=some (st',r)→st.length≤st'.length)
 | 0=>⟨(fun _ _ _ _ _ h=>by cases h),(fun _ _ _ _ _ h=>by cases h),(fun _ _ _ _ _ _ h=>by cases h),(fun _ _ _ _ _ _ _ h=>by cases h),(fun _ _ _ _ _ _ h=>by cases h)⟩
 | f + 1=>by
  obtain ⟨hB,hC,hA,hX,hN⟩:=Z1 f
  refine ⟨fun i next st st' r h=>?_,fun ks next st st' r h=>?_,fun ks next s0 st st' r h=>?_,fun kid m last next st st' r h=>?_,fun kid m next st st' r h=>?_⟩
  ·rw [T0] at h
   dsimp only at h
   split at h
   ·cases h;exact Nat.le_refl _
   split at h
   ·cases h;simp
   split at h
   ·cases h;simp
   split at h
   ·cases h;simp
   split at h
   ·exact hC _ _ _ _ _ h
   split at h
   ·split at h
    ·cases h
    ·split at h
     ·cases h
     ·rename_i h1
      exact Nat.le_trans (hB _ _ _ _ _ h1) (hA _ _ _ _ _ _ h)
   split at h
   ·split at h
    ·split at h
     ·cases h
     ·rename_i h1
      have h2:=hB _ _ _ _ _ h1
      have h3:=hN _ _ _ _ _ _ h
      rw [J63,List.length_singleton] at h2
      rw [J83] at h3
      omega
    ·split at h
     ·cases h
     ·rename_i h1
      exact Nat.le_trans (hX _ _ _ _ _ _ _ h1) (hN _ _ _ _ _ _ h)
   ·cases h;exact Nat.le_refl _
  ·cases ks with
   | nil=>rw [catB] at h;cases h;exact Nat.le_refl _
   | cons k ks =>
    rw [catB] at h
    split at h
    ·cases h
    ·rename_i h1
     exact Nat.le_trans (hB _ _ _ _ _ h1) (hC _ _ _ _ _ h)
  ·cases ks with
   | nil=>rw [G13] at h;cases h;exact Nat.le_refl _
   | cons k ks =>
    rw [G13] at h
    split at h
    ·cases h
    ·rename_i h1
     have h2:=hB _ _ _ _ _ h1
     have h3:=hA _ _ _ _ _ _ h
     rw [J63,List.length_singleton] at h3
     omega
  ·cases m with
   | zero=>rw [E75] at h;cases h;exact Nat.le_refl _
   | succ m =>
    rw [E75] at h
    split at h
    ·cases h
    ·rename_i h1
     have h2:=hB _ _ _ _ _ h1
     have h3:=hX _ _ _ _ _ _ _ h
     rw [J63,List.length_singleton] at h3
     omega
  ·cases m with
   | zero=>rw [E76] at h;cases h;exact Nat.le_refl _
   | succ m =>
    rw [E76] at h
    split at h
    ·cases h
    ·rename_i h1
     exact Nat.le_trans (hB _ _ _ _ _ h1) (hN _ _ _ _ _ _ h)
end
def E42 (ns:List AL.Node) (w:List Int) (f:Nat):Prop:=∀(i:Int) (next:Int) (st st':List AL.State) (r:Int),T0 ns w f i next st=some (st',r)→(0≤i∧i < ns.length)→st'.length≤20000 →
 ∀{gf:Fr} {ob:Obs},B4 ob 820=some (B03 ns w)→B4 ob 821=some (i8 st)→B4 ob 824=none →
  AL.Met Tryz.prog 61 [B04,M3 i,M3 next] gf ob [821,824] (fun rs ob'=>rs=[M3 r]∧ob'=(820,B03 ns w)::(821,i8 st')::G4 [821,824] ob)
theorem taker {ks:List Int} {j:Nat} {k:Int} (h:ks[j]?=some k):(ks.take (j+1)).reverse=k::(ks.take j).reverse:=by
 rw [List.take_add_one,h,Option.toList_some,List.reverse_append];rfl
theorem H56 {ns:List AL.Node} {w:List Int} {F:Nat} (IH:∀g,g≤F→E42 ns w g) (ks:List Int) (next:Int) (st st1 st':List AL.State) (s0 r k:Int) (kr:List Int) (hk:ks.reverse=k::kr) (hks:∀k∈ks,0≤k∧k < ns.length) (hkl:ks.length≤4000) (hb:T0 ns w F k next st=some (st1,s0)) (ha:G13 ns w F kr next s0 st1=some (st',r)) (hl:st'.length≤20000)
  {gf:Fr} {ob:Obs} (h0:B4 ob 820=some (B03 ns w)) (h1:B4 ob 821=some (i8 st)) (h2:B4 ob 824=none) :
  AL.Met Tryz.prog 91 [B04,.one (.p (.list Int 1 F0 ks)),M3 next] gf ob [821,824] (fun rs ob'=>rs=[M3 r]∧ob'=(820,B03 ns w)::(821,i8 st')::G4 [821,824] ob):=by
 have hlen:ks.length=kr.length+1:=by have:=congrArg List.length hk;rwa [K03,J64] at this
 have hkr:kr=(ks.take kr.length).reverse:=by
  have h3:ks=kr.reverse++[k]:=by rw [←List.reverse_reverse ks,hk,List.reverse_cons]
  rw [h3,List.take_append_of_le_length (by simp),J86 (by simp),List.reverse_reverse]
 have hkv:ks[(((ks.length:Nat):Int) - 1).toNat]?=some k:=by
  have h3:ks=kr.reverse++[k]:=by rw [←List.reverse_reverse ks,hk,List.reverse_cons]
  rw [show (((ks.length:Nat):Int) - 1).toNat=kr.reverse.length by rw [K03];omega,h3]
  exact List.getElem?_concat_length
 have hm1:=(Z1 ns w F).2.2.1 _ _ _ _ _ _ ha
 refine AL.Met.introH Tryz.func91 (by decide) rfl rfl rfl (fun hH=>?_)
 refine D9 (J37 821 (l:=[(0,.s B04),(1,D5 Int 1 F0 ks),(2,.s (M3 next))]) (L:=[(820,_),(821,_)]) ⟨le1 rfl,le1 rfl,le1 rfl,trivial⟩ hH (by repeat (first | exact A8 | refine A9 rfl ?_)) ⟨h0,h1,trivial⟩) ?_
 refine D9 (Sees.forget 824) ?_
 have hf3:B4 (G4 [821,824] ob) 824=none:=S9 h2
 refine D9 (J36 (gf':=C1 [821,824] gf) (l:=[(0,.s B04),(1,D5 Int 1 F0 ks),(2,.s (M3 next))]) (ob':=[(820,B03 ns w),(821,i8 st)]++G4 [821,824] ob) ⟨le1 rfl,le1 rfl,le1 rfl,trivial⟩ (D3 hH) (by repeat (first | exact A8 | refine tail_drop rfl ?_ | refine A9 rfl ?_ | refine F2 _ rfl ?_)) (C9 (L:=[(820,_),(821,_)]) ⟨rfl,rfl,trivial⟩ (by repeat (first | exact B8 | refine C0 rfl ?_)))) ?_
 refine k2 (A2 (A6 J J (A4 ?_)));refine k1 (k2 (A2 (A3 J J (F3 J J (A5 (K1 J J (by omega)) J (A6 J J (A4 ?_)))))));refine k1 (k2 (A2 (A3 J J (A3 J J (A3 J J (A5 (B3 J (.pure _ _ _ _) J (by omega) hkv) J (A5 (B1 J J) J (A3 J J (H4 (IH F (Nat.le_refl _) k next st st1 s0 hb (hks k (J69 hkv)) (by omega) J J hf3) J J J ?_)))))))));rintro _ _ ⟨rfl,rfl⟩;refine A6 J J (A4 ?_);refine k1 (k2 (k2 (A2 (A3 J J (A5 (K1 J J (by omega)) J (A6 J J (A4 ?_)))))));refine k1 (k3 ?_);refine D6 (X:=Nat × Nat × Int × List AL.State) (fun x=>([(0,.s B04),(1,D5 Int 1 F0 ks),(2,.s (M3 next)),(8,C3 x.2.2.1),(9,C3 ((x.2.1:Int) - 1))]++C1 [821,824] gf,[(820,B03 ns w),(821,i8 x.2.2.2)]++G4 [821,824] ob)) (fun x=>x.1≤F∧x.2.1≤kr.length∧G13 ns w x.1 (ks.take x.2.1).reverse next x.2.2.1 x.2.2.2=some (st',r)) (fun x=>x.2.1) (F,kr.length,s0,st1) ⟨Nat.le_refl _,Nat.le_refl _,by dsimp only;rw [←hkr];exact ha⟩ ?_ ?_
 ·dsimp only
  rw [show ((kr.length:Int) - 1)=((ks.length:Int) - 1 - 1) by omega]
  exact J36 ⟨le1 rfl,le1 rfl,le1 rfl,le1 rfl,le1 rfl,trivial⟩ (D3 hH) (by repeat (first | exact A8 | refine tail_drop rfl ?_ | refine A9 rfl ?_ | refine F2 _ rfl ?_)) (C9 (L:=[(820,_),(821,_)]) ⟨rfl,rfl,trivial⟩ (by repeat (first | exact B8 | refine C0 rfl ?_ | refine D4 hf3 ?_ | refine K6 _ rfl ?_ | refine J9 hf3 ?_)))
 rintro ⟨f,c,s1,sx⟩ ⟨hf,hc,hA⟩
 dsimp only at hf hc hA ⊢
 refine k2 (k2 (A2 (A3 J J (A5 (U8 J J) J (A4 ?_)))));refine k1 ?_;refine B0 rfl (fun ht=>?_) (fun ht=>?_)
 rotate_left
 ·have hc0:c=0:=by have:=A1 ht;omega
  subst hc0
  have hf0:f≠0:=fun e=>by rw [e] at hA;cases hA
  obtain ⟨f,rfl⟩:∃g,f=g+1:=⟨f - 1,by omega⟩
  rw [List.take_zero,List.reverse_nil,G13] at hA
  cases hA
  refine k6 (k2 (A2 (A3 J J (A6 J J (A4 ?_)))));refine k1 (k10 ?_)
  exact E0 (H9 rfl rfl) (by repeat (first | exact A8 | refine tail_drop rfl ?_ | refine A9 rfl ?_ | refine F2 _ rfl ?_)) (C9 (L:=[(820,_),(821,_)]) ⟨rfl,rfl,trivial⟩ (by repeat (first | exact B8 | refine C0 rfl ?_ | refine D4 hf3 ?_ | refine K6 _ rfl ?_ | refine J9 hf3 ?_))) ⟨rfl,rfl⟩
 have hcp:0 < c:=by have:=A0 ht;omega
 obtain ⟨c,rfl⟩:∃g,c=g+1:=⟨c - 1,by omega⟩
 obtain ⟨kc,hkc⟩:∃kc,kc=ks[c]'(by omega):=⟨_,rfl⟩
 have hkv2:ks[c]?=some kc:=by rw [hkc];exact J60 (by omega)
 have hkv3:ks[(((c+1:Nat):Int) - 1).toNat]?=some kc:=by rw [show (((c+1:Nat):Int) - 1).toNat=c by omega];exact hkv2
 rw [taker hkv2] at hA
 have hf0:f≠0:=fun e=>by rw [e] at hA;cases hA
 obtain ⟨f,rfl⟩:∃g,f=g+1:=⟨f - 1,by omega⟩
 rw [G13] at hA
 cases hbk:T0 ns w f kc next sx with
 | none=>rw [hbk] at hA;cases hA
 | some y =>
  obtain ⟨sy,b⟩:=y
  rw [hbk] at hA
  dsimp only at hA
  have hm2:=(Z1 ns w f).2.2.1 _ _ _ _ _ _ hA
  rw [J63,List.length_singleton] at hm2
  refine k5 (k1 (k2 (k3 (A2 (A3 J J (A3 J J (A3 J J (A3 J J (A5 (B3 J (.pure _ _ _ _) J (by omega) hkv3) J (A5 (B1 J J) J (A3 J J (H4 (IH f (by omega) kc next sx sy b hbk (hks kc (J69 hkv2)) (by omega) J J hf3) J J J ?_))))))))))));rintro _ _ ⟨rfl,rfl⟩;refine A3 J J (A5 (I8 J) J (H4 (n5 sy ⟨1,⟨0,0,0,0⟩,b,s1⟩ (by omega) J J) J J J ?_));rintro _ _ ⟨rfl,rfl⟩;refine A6 J J (A4 ?_);refine k4 (k1 (A2 (A3 J J (A5 (K1 J J (by omega)) J (A6 J J (A4 ?_))))));refine k1 ?_;refine ⟨(f,c,(sy.length:Int),sy++[⟨1,⟨0,0,0,0⟩,b,s1⟩]),⟨by dsimp only;omega,by dsimp only;omega,hA⟩,by dsimp only;omega,?_⟩
  dsimp only
  rw [show ((c:Int) - 1)=(((c+1:Nat):Int) - 1 - 1) by omega]
  exact J36 ⟨le1 rfl,le1 rfl,le1 rfl,le1 rfl,le1 rfl,trivial⟩ (D3 hH) (by repeat (first | exact A8 | refine tail_drop rfl ?_ | refine A9 rfl ?_ | refine F2 _ rfl ?_)) (C9 (L:=[(820,_),(821,_)]) ⟨rfl,rfl,trivial⟩ (by repeat (first | exact B8 | refine C0 rfl ?_ | refine D4 hf3 ?_ | refine K6 _ rfl ?_ | refine J9 hf3 ?_)))
theorem G69 {ns:List AL.Node} {w:List Int} {F:Nat} (IH:∀g,g≤F→E42 ns w g) (n:AL.Node) (kid next:Int) (st st0 stM st':List AL.State) (nx nM r:Int) (hk0:n.Kids[(0:Int).toNat]?=some kid) (hki:0≤kid∧kid < ns.length) (hb1:0≤n.Min∧n.Min≤100∧(n.Max = -1∨n.Min≤n.Max∧n.Max≤100))
  (hlo:n.Max < 0→∃sa a,T0 ns w F kid st.length (st++[⟨1,⟨0,0,0,0⟩,0,next⟩])=some (sa,a)∧st0=sa.set st.length { (sa.getD st.length o5) with Next:=a }∧nx=st.length) (hhi:¬n.Max < 0→st0=st∧nx=next)
  (hmx:E75 ns w F kid (n.Max - n.Min).toNat nx nx st0=some (stM,nM)) (hmn:E76 ns w F kid n.Min.toNat nM stM=some (st',r)) (hl:st'.length≤20000)
  {gf:Fr} {ob:Obs} (h0:B4 ob 820=some (B03 ns w)) (h1:B4 ob 821=some (i8 st)) (h2:B4 ob 824=none) :
  AL.Met Tryz.prog 92 [B04,(D68 n).s1,M3 next] gf ob [821,824] (fun rs ob'=>rs=[M3 r]∧ob'=(820,B03 ns w)::(821,i8 st')::G4 [821,824] ob):=by
 have hm1:=(Z1 ns w F).2.2.2.2 _ _ _ _ _ _ hmn
 have hm2:=(Z1 ns w F).2.2.2.1 _ _ _ _ _ _ _ hmx
 refine AL.Met.introH Tryz.func92 (by decide) rfl rfl rfl (fun hH=>?_)
 refine D9 (J37 821 (l:=[(0,.s B04),(1,.s (D68 n).s1),(2,.s (M3 next))]) (L:=[(820,_),(821,_)]) ⟨le1 rfl,le1 rfl,le1 rfl,trivial⟩ hH (by repeat (first | exact A8 | refine A9 rfl ?_)) ⟨h0,h1,trivial⟩) ?_
 refine D9 (Sees.forget 824) ?_
 have hf3:B4 (G4 [821,824] ob) 824=none:=S9 h2
 refine D9 (J36 (gf':=C1 [821,824] gf) (l:=[(0,.s B04),(1,.s (D68 n).s1),(2,.s (M3 next))]) (ob':=[(820,B03 ns w),(821,i8 st)]++G4 [821,824] ob) ⟨le1 rfl,le1 rfl,le1 rfl,trivial⟩ (D3 hH) (by repeat (first | exact A8 | refine tail_drop rfl ?_ | refine A9 rfl ?_ | refine F2 _ rfl ?_)) (C9 (L:=[(820,_),(821,_)]) ⟨rfl,rfl,trivial⟩ (by repeat (first | exact B8 | refine C0 rfl ?_)))) ?_
 refine k2 (A2 (A5 (m9 J J J) J (A6 J J (A4 ?_))));refine k1 (k2 (A2 (A5 (C5 J) J (A5 (B1 J J) J (A5 (B3 J (.pure _ _ _ _) J (by omega) hk0) J (A5 (B1 J J) J (A6 J J (A4 ?_))))))));refine k1 (k2 (k2 (A2 (A5 (C5 J) J (A5 (B1 J J) J (G7 J J J (A4 ?_)))))));refine k1 ?_;refine B72 ([(0,.s B04),(2,C3 nx),(4,.s (.one (.eref Unit 8 (fun _ j=>(cellsOf w9 n 0 8).getD j (.v undef)) () 0))),(7,C3 kid)]++C1 [821,824] gf) ([(820,B03 ns w),(821,i8 st0)]++G4 [821,824] ob) ?_ ?_
 ·skip
  refine B0 rfl (fun ht=>?_) (fun ht=>?_)
  ·obtain ⟨sa,a,hba,e0,e1⟩:=hlo (A0 ht)
   subst e0 e1
   have hm3:=(Z1 ns w F).1 _ _ _ _ _ hba
   rw [J63,List.length_singleton] at hm3
   rw [J83] at hm2
   refine k2 (A2 (A3 J J (A3 J J (A5 (I8 J) J (H4 (n5 st ⟨1,⟨0,0,0,0⟩,0,next⟩ (by omega) J J) J J J ?_)))));rintro _ _ ⟨rfl,rfl⟩;refine A6 J J (A4 ?_);refine k1 (k2 ?_)
   have hf4:B4 (Obs.forget 821 (G4 [821,824] ob)) 824=none:=by rw [J7,hf3];rfl
   refine A2 (A3 J J (A3 J J (A3 J J (H4 (IH F (Nat.le_refl _) kid st.length (st++[⟨1,⟨0,0,0,0⟩,0,next⟩]) sa a hba hki (by omega) J J hf4) J J J ?_))));rintro _ _ ⟨rfl,rfl⟩;refine A6 J J (A4 ?_);refine k1 (k2 ?_)
   have hv2:sa[((st.length:Nat):Int).toNat]?=some (sa.getD st.length o5):=by
    rw [J62,J65,J60 (by omega)];rfl
   refine D9 (J36 (gf':=C1 [821,824] gf) (l:=[(0,.s B04),(4,.s (.one (.eref Unit 8 (fun _ j=>(cellsOf w9 n 0 8).getD j (.v undef)) () 0))),(7,C3 kid),(8,C3 st.length),(9,C3 a)]) (ob':=[(820,B03 ns w),(821,i8 sa)]++G4 [821,824] ob) ⟨le1 rfl,le1 rfl,le1 rfl,le1 rfl,le1 rfl,trivial⟩ (D3 hH) (by repeat (first | exact A8 | refine tail_drop rfl ?_ | refine A9 rfl ?_ | refine F2 _ rfl ?_)) (C9 (L:=[(820,_),(821,_)]) ⟨rfl,rfl,trivial⟩ (by repeat (first | exact B8 | refine C0 rfl ?_ | refine D4 hf3 ?_ | refine K6 _ rfl ?_ | refine J9 hf3 ?_)))) ?_
   refine A2 (A3 J J (A5 (B2 J) J (A5 (A7 J) J (G3 J J J J (A3 J J (A3 J J (A5 (H0 J J J (by omega) (by omega)) J (A5 (F57 J) J (H7 (m7 ({ (sa.getD st.length o5) with Next:=a }) TySz.out J J hv2 J J J J (fun _ _ _ h=>r9 h) (by intro j h1 h2;rcases j with _ | _ | _ | _ | _ | _ | _ | j<;>first | rfl | omega)) ?_)))))))));refine A4 ?_;refine k1 (A2 (A3 J J (A6 J J (A4 ?_))));refine k1 ?_
   exact J36 ⟨le1 rfl,le1 rfl,le1 rfl,le1 rfl,trivial⟩ (D3 hH) (by repeat (first | exact A8 | refine tail_drop rfl ?_ | refine A9 rfl ?_ | refine F2 _ rfl ?_)) (C9 (L:=[(820,_),(821,_)]) ⟨rfl,rfl,trivial⟩ (by repeat (first | exact B8 | refine C0 rfl ?_ | refine D4 hf3 ?_ | refine K6 _ rfl ?_ | refine J9 hf3 ?_)))
  ·obtain ⟨e0,e1⟩:=hhi (A1 ht)
   subst e0 e1
   refine k5 (k1 ?_)
   exact J36 ⟨le1 rfl,le1 rfl,le1 rfl,le1 rfl,trivial⟩ (D3 hH) (by repeat (first | exact A8 | refine tail_drop rfl ?_ | refine A9 rfl ?_ | refine F2 _ rfl ?_)) (C9 (L:=[(820,_),(821,_)]) ⟨rfl,rfl,trivial⟩ (by repeat (first | exact B8 | refine C0 rfl ?_ | refine D4 hf3 ?_ | refine K6 _ rfl ?_ | refine J9 hf3 ?_)))
 refine k2 (A2 (A3 J J (A6 J J (A4 ?_))));refine k1 (k2 (k2 (A2 (A5 (C5 J) J (A5 (B1 J J) J (A5 (C5 J) J (A5 (B1 J J) J (A5 (K1 J J (by omega)) J (A3 J J (A4 ?_))))))))));refine k1 (k3 ?_);refine D6 (X:=Nat × Nat × Int × List AL.State) (fun x=>([(0,.s B04),(2,C3 x.2.2.1),(4,.s (.one (.eref Unit 8 (fun _ j=>(cellsOf w9 n 0 8).getD j (.v undef)) () 0))),(7,C3 kid),(10,C3 nx),(40,C3 (n.Max - n.Min)),(41,C3 (((n.Max - n.Min).toNat:Int) - x.2.1))]++C1 [821,824] gf,[(820,B03 ns w),(821,i8 x.2.2.2)]++G4 [821,824] ob)) (fun x=>x.1≤F∧x.2.1≤(n.Max - n.Min).toNat∧E75 ns w x.1 kid x.2.1 nx x.2.2.1 x.2.2.2=some (stM,nM)) (fun x=>x.2.1) (F,(n.Max - n.Min).toNat,nx,st0) ⟨Nat.le_refl _,Nat.le_refl _,hmx⟩ ?_ ?_
 ·dsimp only
  rw [Int.sub_self]
  exact J36 ⟨le1 rfl,le1 rfl,le1 rfl,le1 rfl,le1 rfl,le1 rfl,le1 rfl,trivial⟩ (D3 hH) (by repeat (first | exact A8 | refine tail_drop rfl ?_ | refine A9 rfl ?_ | refine F2 _ rfl ?_)) (C9 (L:=[(820,_),(821,_)]) ⟨rfl,rfl,trivial⟩ (by repeat (first | exact B8 | refine C0 rfl ?_ | refine D4 hf3 ?_ | refine K6 _ rfl ?_ | refine J9 hf3 ?_)))
 rintro ⟨f,c,s1,sx⟩ ⟨hf,hc,hA⟩
 dsimp only at hf hc hA ⊢
 have hf0:f≠0:=fun e=>by rw [e] at hA;cases hA
 obtain ⟨f,rfl⟩:∃g,f=g+1:=⟨f - 1,by omega⟩
 refine k2 (A2 (G7 J J J (A4 ?_)));refine k1 (k2 ?_);refine B0 rfl (fun ht=>?_) (fun ht=>?_)
 ·have hcp:0 < c:=by have:=A0 ht;omega
  obtain ⟨c,rfl⟩:∃g,c=g+1:=⟨c - 1,by omega⟩
  rw [E75] at hA
  cases hbk:T0 ns w f kid s1 sx with
  | none=>rw [hbk] at hA;cases hA
  | some y =>
   obtain ⟨sy,b⟩:=y
   rw [hbk] at hA
   dsimp only at hA
   have hm4:=(Z1 ns w f).2.2.2.1 _ _ _ _ _ _ _ hA
   rw [J63,List.length_singleton] at hm4
   refine k5 (k1 (k2 (k3 (A2 (A3 J J (A3 J J (A3 J J (A3 J J (H4 (IH f (by omega) kid s1 sx sy b hbk hki (by omega) J J hf3) J J J ?_)))))))));rintro _ _ ⟨rfl,rfl⟩;refine A3 J J (A5 (I8 J) J (H4 (n5 sy ⟨1,⟨0,0,0,0⟩,b,nx⟩ (by omega) J J) J J J ?_));rintro _ _ ⟨rfl,rfl⟩;refine A6 J J (A4 ?_);refine k4 (k1 (A2 (E4 J J J (A3 J J (A4 ?_)))));refine k1 ?_;refine ⟨(f,c,(sy.length:Int),sy++[⟨1,⟨0,0,0,0⟩,b,nx⟩]),⟨by dsimp only;omega,by dsimp only;omega,hA⟩,by dsimp only;omega,?_⟩
   dsimp only
   rw [show (((n.Max - n.Min).toNat:Int) - (c:Int))=((n.Max - n.Min).toNat:Int) - ((c+1:Nat):Int)+1 by omega]
   exact J36 ⟨le1 rfl,le1 rfl,le1 rfl,le1 rfl,le1 rfl,le1 rfl,le1 rfl,trivial⟩ (D3 hH) (by repeat (first | exact A8 | refine tail_drop rfl ?_ | refine A9 rfl ?_ | refine F2 _ rfl ?_)) (C9 (L:=[(820,_),(821,_)]) ⟨rfl,rfl,trivial⟩ (by repeat (first | exact B8 | refine C0 rfl ?_ | refine D4 hf3 ?_ | refine K6 _ rfl ?_ | refine J9 hf3 ?_)))
 have hc0:c=0:=by have:=A1 ht;omega
 subst hc0
 rw [E75] at hA
 cases hA
 refine k6 (k2 (k2 (A2 (A5 (C5 J) J (A5 (B1 J J) J (A3 J J (A4 ?_)))))));refine k1 (k3 ?_);refine D6 (X:=Nat × Nat × Int × List AL.State) (fun x=>([(0,.s B04),(2,C3 x.2.2.1),(7,C3 kid),(53,C3 n.Min),(54,C3 (n.Min - x.2.1))]++C1 [821,824] gf,[(820,B03 ns w),(821,i8 x.2.2.2)]++G4 [821,824] ob)) (fun x=>x.1≤F∧x.2.1≤n.Min.toNat∧E76 ns w x.1 kid x.2.1 x.2.2.1 x.2.2.2=some (st',r)) (fun x=>x.2.1) (F,n.Min.toNat,nM,stM) ⟨Nat.le_refl _,Nat.le_refl _,hmn⟩ ?_ ?_
 ·dsimp only
  rw [show n.Min - (n.Min.toNat:Int)=0 by omega]
  exact J36 ⟨le1 rfl,le1 rfl,le1 rfl,le1 rfl,le1 rfl,trivial⟩ (D3 hH) (by repeat (first | exact A8 | refine tail_drop rfl ?_ | refine A9 rfl ?_ | refine F2 _ rfl ?_)) (C9 (L:=[(820,_),(821,_)]) ⟨rfl,rfl,trivial⟩ (by repeat (first | exact B8 | refine C0 rfl ?_ | refine D4 hf3 ?_ | refine K6 _ rfl ?_ | refine J9 hf3 ?_)))
 rintro ⟨f,c,s1,sx⟩ ⟨hf,hc,hA⟩
 dsimp only at hf hc hA ⊢
 have hf0:f≠0:=fun e=>by rw [e] at hA;cases hA
 obtain ⟨f,rfl⟩:∃g,f=g+1:=⟨f - 1,by omega⟩
 refine k2 (A2 (G7 J J J (A4 ?_)));refine k1 (k2 ?_);refine B0 rfl (fun ht=>?_) (fun ht=>?_)
 ·have hcp:0 < c:=by have:=A0 ht;omega
  obtain ⟨c,rfl⟩:∃g,c=g+1:=⟨c - 1,by omega⟩
  rw [E76] at hA
  cases hbk:T0 ns w f kid s1 sx with
  | none=>rw [hbk] at hA;cases hA
  | some y =>
   obtain ⟨sy,b⟩:=y
   rw [hbk] at hA
   dsimp only at hA
   have hm4:=(Z1 ns w f).2.2.2.2 _ _ _ _ _ _ hA
   refine k5 (k1 (k2 (k3 (A2 (A3 J J (A3 J J (A3 J J (H4 (IH f (by omega) kid s1 sx sy b hbk hki (by omega) J J hf3) J J J ?_))))))));rintro _ _ ⟨rfl,rfl⟩;refine A6 J J (A4 ?_);refine k4 (k1 (A2 (E4 J J J (A3 J J (A4 ?_)))));refine k1 ?_;refine ⟨(f,c,b,sy),⟨by dsimp only;omega,by dsimp only;omega,hA⟩,by dsimp only;omega,?_⟩
   dsimp only
   rw [show (n.Min - (c:Int))=n.Min - ((c+1:Nat):Int)+1 by omega]
   exact J36 ⟨le1 rfl,le1 rfl,le1 rfl,le1 rfl,le1 rfl,trivial⟩ (D3 hH) (by repeat (first | exact A8 | refine tail_drop rfl ?_ | refine A9 rfl ?_ | refine F2 _ rfl ?_)) (C9 (L:=[(820,_),(821,_)]) ⟨rfl,rfl,trivial⟩ (by repeat (first | exact B8 | refine C0 rfl ?_ | refine D4 hf3 ?_ | refine K6 _ rfl ?_ | refine J9 hf3 ?_)))
 have hc0:c=0:=by have:=A1 ht;omega
 subst hc0
 rw [E76] at hA
 cases hA
 refine k6 (k2 (A2 (A3 J J (A6 J J (A4 ?_)))));refine k1 (k10 ?_)
 exact E0 (H9 rfl rfl) (by repeat (first | exact A8 | refine tail_drop rfl ?_ | refine A9 rfl ?_ | refine F2 _ rfl ?_)) (C9 (L:=[(820,_),(821,_)]) ⟨rfl,rfl,trivial⟩ (by repeat (first | exact B8 | refine C0 rfl ?_ | refine D4 hf3 ?_ | refine K6 _ rfl ?_ | refine J9 hf3 ?_))) ⟨rfl,rfl⟩
theorem H57 {ns:List AL.Node} {w:List Int} {F:Nat} (hc:B19 ns=0) (hkl:∀n∈ns,n.Kids.length≤4000) (hwl:w.length=ns.length) (IH:∀g,g≤F→E42 ns w g):E42 ns w (F+1):=by
 obtain ⟨hl1,hl2,hfit⟩:=A10 hc
 intro i next st st' r hB hi hl gf ob h0 h1 h2
 obtain ⟨n,hn⟩:∃n,n=ns[i.toNat]'(by omega):=⟨_,rfl⟩
 have hv:ns[i.toNat]?=some n:=by rw [hn];exact J60 (by omega)
 obtain ⟨hki,hX⟩:=B01 (hfit i.toNat n hv)
 have hks:∀k∈n.Kids,0≤k∧k < ns.length:=fun k hk=>by have:=hki k hk;omega
 have hkn:=hkl n (J69 hv)
 have hgd:ns.getD i.toNat B28=n:=by rw [J65,hv];rfl
 have hwv:w[i.toNat]?=some (atG w i.toNat):=by unfold atG;rw [J60 (by omega)];rfl
 have hmono:=(Z1 ns w (F+1)).1 _ _ _ _ _ hB
 rw [T0,hgd] at hB
 dsimp only at hB
 refine AL.Met.introH Tryz.func61 (by decide) rfl rfl rfl (fun hH=>?_)
 refine D9 (J37 821 (l:=[(0,.s B04),(1,.s (M3 i)),(2,.s (M3 next))]) (L:=[(820,_),(821,_)]) ⟨le1 rfl,le1 rfl,le1 rfl,trivial⟩ hH (by repeat (first | exact A8 | refine A9 rfl ?_)) ⟨h0,h1,trivial⟩) ?_
 refine D9 (Sees.forget 824) ?_
 have hf3:B4 (G4 [821,824] ob) 824=none:=S9 h2
 refine D9 (J36 (gf':=C1 [821,824] gf) (l:=[(0,.s B04),(1,.s (M3 i)),(2,.s (M3 next))]) (ob':=[(820,B03 ns w),(821,i8 st)]++G4 [821,824] ob) ⟨le1 rfl,le1 rfl,le1 rfl,trivial⟩ (D3 hH) (by repeat (first | exact A8 | refine tail_drop rfl ?_ | refine A9 rfl ?_ | refine F2 _ rfl ?_)) (C9 (L:=[(820,_),(821,_)]) ⟨rfl,rfl,trivial⟩ (by repeat (first | exact B8 | refine C0 rfl ?_)))) ?_
 refine k2 (A2 (A6 J J (A4 ?_)));refine k1 (k2 (k2 (A2 (A3 J J (A5 (B2 J) J (A5 (A7 J) J (G3 J J J J (A3 J J (A5 (B3 J (.pure _ _ _ _) J (by omega) hwv) J (A5 (B1 J J) J (A5 (F4 J J) J (A4 ?_))))))))))));refine k1 ?_;refine B0 rfl (fun ht=>?_) (fun ht=>?_)
 ·rw [if_pos (A0 ht)] at hB
  cases hB
  refine k2 (A2 (A3 J J (A6 J J (A4 ?_))));refine k1 (k10 (k11 ?_))
  exact E0 (H9 rfl rfl) (by repeat (first | exact A8 | refine tail_drop rfl ?_ | refine A9 rfl ?_ | refine F2 _ rfl ?_)) (C9 (L:=[(820,_),(821,_)]) ⟨rfl,rfl,trivial⟩ (by repeat (first | exact B8 | refine C0 rfl ?_ | refine D4 hf3 ?_ | refine K6 _ rfl ?_ | refine J9 hf3 ?_))) ⟨rfl,rfl⟩
 rw [if_neg (A1 ht)] at hB
 refine k5 (k1 (k2 (A2 (A3 J J (A5 (B2 J) J (A5 (A7 J) J (G3 J J J J (A3 J J (A5 (B3 J (.pure _ _ _ _) J (by omega) hv) J (A5 (E3 J J) J (D2 (C42 824 hf3 (by decide)) J (H7 (C4 TySz.out J J J J J J) (A4 ?_)))))))))))));refine k1 (D9 (J51 (t:=7) (k:=824) (cs:=cellsOf w9 n 0 8) J J J J) ?_)
 refine D9 (J36 (gf':=C1 [821,824] gf) (l:=[(0,.s B04),(1,.s (M3 i)),(2,.s (M3 next)),(7,.s (.one (.eref Unit 8 (fun _ j=>(cellsOf w9 n 0 8).getD j (.v undef)) () 0)))]) (ob':=[(820,B03 ns w),(821,i8 st)]++G4 [821,824] ob) ⟨le1 rfl,le1 rfl,le1 rfl,le1 rfl,trivial⟩ (D3 hH) (by repeat (first | exact A8 | refine tail_drop rfl ?_ | refine A9 rfl ?_ | refine F2 _ rfl ?_)) (C9 (L:=[(820,_),(821,_)]) ⟨rfl,rfl,trivial⟩ (by repeat (first | exact B8 | refine C0 rfl ?_ | refine D4 hf3 ?_ | refine K6 _ rfl ?_ | refine J9 hf3 ?_)))) ?_
 refine k2 (k2 (A2 (A5 (C5 J) J (A5 (B1 J J) J (A4 ?_)))));refine k1 (k3 (k2 (A2 (A5 (F4 J J) J (A6 J J (A4 ?_))))));refine k1 ?_;refine B0 rfl (fun ht=>?_) (fun ht=>?_)
 ·have hK:=A0 ht
  rw [if_pos hK] at hB
  cases hB
  refine k2 (A2 (A3 J J (A5 (C5 J) J (A5 (E3 J J) J (A3 J J (A5 (I8 J) J (H4 (n5 st ⟨0,n.Set,next,0⟩ (by simp only [J63,List.length_singleton] at hl;omega) J J) J J J ?_)))))));rintro _ _ ⟨rfl,rfl⟩;refine A6 J J (A4 ?_);refine k1 (k10 (k12 (k11 ?_)))
  exact E0 (H9 rfl rfl) (by repeat (first | exact A8 | refine tail_drop rfl ?_ | refine A9 rfl ?_ | refine F2 _ rfl ?_)) (C9 (L:=[(820,_),(821,_)]) ⟨rfl,rfl,trivial⟩ (by repeat (first | exact B8 | refine C0 rfl ?_ | refine D4 hf3 ?_ | refine K6 _ rfl ?_ | refine J9 hf3 ?_))) ⟨rfl,rfl⟩
 have hK1:=A1 ht
 rw [if_neg hK1] at hB
 refine k2 (A2 (A5 (F4 J J) J (A6 J J (A4 ?_))));refine k1 ?_;refine B0 rfl (fun ht=>?_) (fun ht=>?_)
 ·have hK:=A0 ht
  rw [if_pos hK] at hB
  cases hB
  refine k2 (A2 (A3 J J (A3 J J (A5 (I8 J) J (H4 (n5 st ⟨2,⟨0,0,0,0⟩,next,0⟩ (by simp only [J63,List.length_singleton] at hl;omega) J J) J J J ?_)))));rintro _ _ ⟨rfl,rfl⟩;refine A6 J J (A4 ?_);refine k1 (k10 (k12 (k11 ?_)))
  exact E0 (H9 rfl rfl) (by repeat (first | exact A8 | refine tail_drop rfl ?_ | refine A9 rfl ?_ | refine F2 _ rfl ?_)) (C9 (L:=[(820,_),(821,_)]) ⟨rfl,rfl,trivial⟩ (by repeat (first | exact B8 | refine C0 rfl ?_ | refine D4 hf3 ?_ | refine K6 _ rfl ?_ | refine J9 hf3 ?_))) ⟨rfl,rfl⟩
 have hK2:=A1 ht
 rw [if_neg hK2] at hB
 refine k2 (A2 (A5 (F4 J J) J (A6 J J (A4 ?_))));refine k1 ?_;refine B0 rfl (fun ht=>?_) (fun ht=>?_)
 ·have hK:=A0 ht
  rw [if_pos hK] at hB
  cases hB
  refine k2 (A2 (A3 J J (A3 J J (A5 (I8 J) J (H4 (n5 st ⟨3,⟨0,0,0,0⟩,next,0⟩ (by simp only [J63,List.length_singleton] at hl;omega) J J) J J J ?_)))));rintro _ _ ⟨rfl,rfl⟩;refine A6 J J (A4 ?_);refine k1 (k10 (k12 (k11 ?_)))
  exact E0 (H9 rfl rfl) (by repeat (first | exact A8 | refine tail_drop rfl ?_ | refine A9 rfl ?_ | refine F2 _ rfl ?_)) (C9 (L:=[(820,_),(821,_)]) ⟨rfl,rfl,trivial⟩ (by repeat (first | exact B8 | refine C0 rfl ?_ | refine D4 hf3 ?_ | refine K6 _ rfl ?_ | refine J9 hf3 ?_))) ⟨rfl,rfl⟩
 have hK3:=A1 ht
 rw [if_neg hK3] at hB
 refine k2 (A2 (A5 (F4 J J) J (A6 J J (A4 ?_))));refine k1 ?_;refine B0 rfl (fun ht=>?_) (fun ht=>?_)
 ·have hK:=A0 ht
  rw [if_pos hK] at hB
  refine k2 (A2 (A5 (C5 J) J (A5 (B1 J J) J (F3 J J (A5 (K1 J J (by omega)) J (A6 J J (A4 ?_)))))));refine k1 (k3 ?_);refine D6 (X:=Nat × Nat × Int × List AL.State) (fun x=>([(0,.s B04),(2,C3 x.2.2.1),(7,.s (.one (.eref Unit 8 (fun _ j=>(cellsOf w9 n 0 8).getD j (.v undef)) () 0))),(8,C3 ((x.2.1:Int) - 1))]++C1 [821,824] gf,[(820,B03 ns w),(821,i8 x.2.2.2)]++G4 [821,824] ob)) (fun x=>x.1≤F∧x.2.1≤n.Kids.length∧catB ns w x.1 (n.Kids.take x.2.1).reverse x.2.2.1 x.2.2.2=some (st',r)) (fun x=>x.2.1) (F,n.Kids.length,next,st) ⟨Nat.le_refl _,Nat.le_refl _,by dsimp only;rw [J67];exact hB⟩ ?_ ?_
  ·exact J36 ⟨le1 rfl,le1 rfl,le1 rfl,le1 rfl,trivial⟩ (D3 hH) (by repeat (first | exact A8 | refine tail_drop rfl ?_ | refine A9 rfl ?_ | refine F2 _ rfl ?_)) (C9 (L:=[(820,_),(821,_)]) ⟨rfl,rfl,trivial⟩ (by repeat (first | exact B8 | refine C0 rfl ?_ | refine D4 hf3 ?_ | refine K6 _ rfl ?_ | refine J9 hf3 ?_)))
  rintro ⟨f,c,s1,sx⟩ ⟨hf,hc',hA⟩
  dsimp only at hf hc' hA ⊢
  have hf0:f≠0:=fun e=>by rw [e] at hA;cases hA
  obtain ⟨f,rfl⟩:∃g,f=g+1:=⟨f - 1,by omega⟩
  refine k2 (k2 (A2 (A3 J J (A5 (U8 J J) J (A4 ?_)))));refine k1 ?_;refine B0 rfl (fun ht=>?_) (fun ht=>?_)
  ·have hcp:0 < c:=by have:=A0 ht;omega
   obtain ⟨c,rfl⟩:∃g,c=g+1:=⟨c - 1,by omega⟩
   obtain ⟨kc,hkc⟩:∃kc,kc=n.Kids[c]'(by omega):=⟨_,rfl⟩
   have hkv2:n.Kids[c]?=some kc:=by rw [hkc];exact J60 (by omega)
   have hkv3:n.Kids[(((c+1:Nat):Int) - 1).toNat]?=some kc:=by rw [show (((c+1:Nat):Int) - 1).toNat=c by omega];exact hkv2
   rw [taker hkv2,catB] at hA
   cases hbk:T0 ns w f kc s1 sx with
   | none=>rw [hbk] at hA;cases hA
   | some y =>
    obtain ⟨sy,b⟩:=y
    rw [hbk] at hA
    dsimp only at hA
    have hm2:=(Z1 ns w f).2.1 _ _ _ _ _ hA
    refine k5 (k1 (k2 (k3 (A2 (A3 J J (A5 (C5 J) J (A5 (B1 J J) J (A3 J J (A5 (B3 J (.pure _ _ _ _) J (by omega) hkv3) J (A5 (B1 J J) J (A3 J J (H4 (IH f (by omega) kc s1 sx sy b hbk (hks kc (J69 hkv2)) (by omega) J J hf3) J J J ?_))))))))))));rintro _ _ ⟨rfl,rfl⟩;refine A6 J J (A4 ?_);refine k4 (k1 (A2 (A3 J J (A5 (K1 J J (by omega)) J (A6 J J (A4 ?_))))));refine k1 ?_;refine ⟨(f,c,b,sy),⟨by dsimp only;omega,by dsimp only;omega,hA⟩,by dsimp only;omega,?_⟩
    dsimp only
    rw [show ((c:Int) - 1)=(((c+1:Nat):Int) - 1 - 1) by omega]
    exact J36 ⟨le1 rfl,le1 rfl,le1 rfl,le1 rfl,trivial⟩ (D3 hH) (by repeat (first | exact A8 | refine tail_drop rfl ?_ | refine A9 rfl ?_ | refine F2 _ rfl ?_)) (C9 (L:=[(820,_),(821,_)]) ⟨rfl,rfl,trivial⟩ (by repeat (first | exact B8 | refine C0 rfl ?_ | refine D4 hf3 ?_ | refine K6 _ rfl ?_ | refine J9 hf3 ?_)))
  have hc0:c=0:=by have:=A1 ht;omega
  subst hc0
  rw [List.take_zero,List.reverse_nil,catB] at hA
  cases hA
  refine k6 (k2 (A2 (A3 J J (A6 J J (A4 ?_)))));refine k1 (k10 ?_)
  exact E0 (H9 rfl rfl) (by repeat (first | exact A8 | refine tail_drop rfl ?_ | refine A9 rfl ?_ | refine F2 _ rfl ?_)) (C9 (L:=[(820,_),(821,_)]) ⟨rfl,rfl,trivial⟩ (by repeat (first | exact B8 | refine C0 rfl ?_ | refine D4 hf3 ?_ | refine K6 _ rfl ?_ | refine J9 hf3 ?_))) ⟨rfl,rfl⟩
 have hK4:=A1 ht
 rw [if_neg hK4] at hB
 refine k2 (A2 (A5 (F4 J J) J (A6 J J (A4 ?_))));refine k1 ?_;refine B0 rfl (fun ht=>?_) (fun ht=>?_)
 ·have hK:=A0 ht
  rw [if_pos hK] at hB
  cases hkr:n.Kids.reverse with
  | nil=>rw [hkr] at hB;cases hB
  | cons k kr =>
   rw [hkr] at hB
   dsimp only at hB
   cases hbk:T0 ns w F k next st with
   | none=>rw [hbk] at hB;cases hB
   | some y =>
    obtain ⟨st1,s0⟩:=y
    rw [hbk] at hB
    dsimp only at hB
    refine k2 (A2 (A3 J J (A5 (C5 J) J (A5 (B1 J J) J (A3 J J (H4 (H56 IH n.Kids next st st1 st' s0 r k kr hkr hks hkn hbk hB hl J J hf3) J J J ?_))))));rintro _ _ ⟨rfl,rfl⟩;refine A6 J J (A4 ?_);refine k1 (k10 (k12 (k11 ?_)))
    exact E0 (H9 rfl rfl) (by repeat (first | exact A8 | refine tail_drop rfl ?_ | refine A9 rfl ?_ | refine F2 _ rfl ?_)) (C9 (L:=[(820,_),(821,_)]) ⟨rfl,rfl,trivial⟩ (by repeat (first | exact B8 | refine C0 rfl ?_ | refine D4 hf3 ?_ | refine K6 _ rfl ?_ | refine J9 hf3 ?_))) ⟨rfl,rfl⟩
 have hK5:=A1 ht
 rw [if_neg hK5] at hB
 refine k2 (A2 (A5 (F4 J J) J (A6 J J (A4 ?_))));refine k1 ?_;refine B0 rfl (fun ht=>?_) (fun ht=>?_)
 ·have hK:=A0 ht
  rw [if_pos hK] at hB
  obtain ⟨hk1,hmm⟩:n.Kids.length=1∧0≤n.Min∧n.Min≤100∧(n.Max = -1∨n.Min≤n.Max∧n.Max≤100):=by omega
  obtain ⟨kid,hkid⟩:∃kid,n.Kids=[kid]:=by
   match hq:n.Kids,hk1 with
   | [kid],_=>exact ⟨kid,rfl⟩
  have hkd:n.Kids.getD 0 0=kid:=by rw [hkid];rfl
  have hk0:n.Kids[(0:Int).toNat]?=some kid:=by rw [hkid];rfl
  have hki2:=hks kid (J69 hk0)
  rw [hkd] at hB
  obtain ⟨st0,nx,stM,nM,hlo,hhi,hmx,hmn⟩:∃(st0:List AL.State) (nx:Int) (stM:List AL.State) (nM:Int),(n.Max < 0→∃sa a,T0 ns w F kid st.length (st++[⟨1,⟨0,0,0,0⟩,0,next⟩])=some (sa,a)∧st0=sa.set st.length { (sa.getD st.length o5) with Next:=a }∧nx=st.length)∧(¬n.Max < 0→st0=st∧nx=next)∧E75 ns w F kid (n.Max - n.Min).toNat nx nx st0=some (stM,nM)∧E76 ns w F kid n.Min.toNat nM stM=some (st',r):=by
   by_cases hM:n.Max < 0
   ·rw [if_pos hM] at hB
    cases hbk:T0 ns w F kid st.length (st++[⟨1,⟨0,0,0,0⟩,0,next⟩]) with
    | none=>erw [hbk] at hB;cases hB
    | some y =>
     obtain ⟨sa,a⟩:=y
     erw [hbk] at hB
     dsimp only at hB
     have hF:F≠0:=fun e=>by rw [e] at hbk;cases hbk
     obtain ⟨F',rfl⟩:∃g,F=g+1:=⟨F - 1,by omega⟩
     refine ⟨_,_,_,_,fun _=>⟨sa,a,rfl,rfl,rfl⟩,fun h=>absurd hM h,?_,hB⟩
     rw [show (n.Max - n.Min).toNat=0 by omega]
     rfl
   ·rw [if_neg hM] at hB
    cases hbk:E75 ns w F kid (n.Max - n.Min).toNat next next st with
    | none=>rw [hbk] at hB;cases hB
    | some y =>
     obtain ⟨sa,a⟩:=y
     rw [hbk] at hB
     dsimp only at hB
     exact ⟨_,_,_,_,fun h=>absurd h hM,fun _=>⟨rfl,rfl⟩,hbk,hB⟩
  refine k2 (A2 (A3 J J (A5 (E3 J J) J (A3 J J (H4 (G69 IH n kid next st st0 stM st' nx nM r hk0 hki2 hmm hlo hhi hmx hmn hl J J hf3) J J J ?_)))));rintro _ _ ⟨rfl,rfl⟩;refine A6 J J (A4 ?_);refine k1 (k10 (k12 (k11 ?_)))
  exact E0 (H9 rfl rfl) (by repeat (first | exact A8 | refine tail_drop rfl ?_ | refine A9 rfl ?_ | refine F2 _ rfl ?_)) (C9 (L:=[(820,_),(821,_)]) ⟨rfl,rfl,trivial⟩ (by repeat (first | exact B8 | refine C0 rfl ?_ | refine D4 hf3 ?_ | refine K6 _ rfl ?_ | refine J9 hf3 ?_))) ⟨rfl,rfl⟩
 have hK6:=A1 ht
 rw [if_neg hK6] at hB
 cases hB
 refine k5 (k2 (A2 (A3 J J (A6 J J (A4 ?_)))));refine k1 (k10 ?_)
 exact E0 (H9 rfl rfl) (by repeat (first | exact A8 | refine tail_drop rfl ?_ | refine A9 rfl ?_ | refine F2 _ rfl ?_)) (C9 (L:=[(820,_),(821,_)]) ⟨rfl,rfl,trivial⟩ (by repeat (first | exact B8 | refine C0 rfl ?_ | refine D4 hf3 ?_ | refine K6 _ rfl ?_ | refine J9 hf3 ?_))) ⟨rfl,rfl⟩
theorem C24 {ns:List AL.Node} {w:List Int} (hc:B19 ns=0) (hkl:∀n∈ns,n.Kids.length≤4000) (hwl:w.length=ns.length):∀F,∀g,g≤F→E42 ns w g
 | 0,g,hg=>by
  obtain rfl:g=0:=by omega
  intro i next st st' r hB
  cases hB
 | F+1,g,hg=>by
  rcases Nat.lt_or_ge g (F+1) with h | h
  ·exact C24 hc hkl hwl F g (by omega)
  ·obtain rfl:g=F+1:=by omega
   exact H57 hc hkl hwl (C24 hc hkl hwl F)
set_option maxHeartbeats 1000000
theorem E43 (L:List AL.Node) (st:List AL.State) (r:Int) (F:Nat) (hc:B19 L=0) (hkl:∀n∈L,n.Kids.length≤4000) (hw:topW L≤4000) (hb:T0 L (V4 L) F ((L.length:Int) - 1) 0 [⟨4,⟨0,0,0,0⟩,0,0⟩]=some (st,r)) (hst:st.length≤20000) :
  FnOk Tryz.prog 38 [x7 L] (fun rs=>rs=[A21 ⟨st,r⟩,G1 0]):=by
 obtain ⟨hl1,hl2,hk⟩:=A10 hc
 have hwl:(V4 L).length=L.length:=by rw [←F84];exact F83 L _
 refine FnOk.intro Tryz.func38 (by decide) J J J J ?_
 refine k2 (A2 (D2 (I9 2 J) J (A6 J J (A4 ?_))));refine k1 (k2 (A2 (A3 J J (D8 (G63 L hc hkl) J J J ?_))));rintro _ rfl;refine A3 J J (H5 J J J (H5 J J J (A6 J J (A6 J J (A4 ?_)))));refine k1 (k2 (k3 (k2 (A2 (A3 J J (A5 (T9 J J) J (A6 J J (A4 ?_))))))));refine k1 ?_;refine B0 rfl (fun ht=>?_) (fun ht=>?_)
 ·cases ht
 refine k2 (A2 (A3 J J (A5 (R8 J J) J (A6 J J (A4 ?_)))));refine k1 ?_;refine B0 rfl (fun ht=>?_) (fun ht=>?_)
 ·have:=A0 ht
  omega
 refine k5 (k2 (A2 (A3 J J (A3 J J (D8 (D44 L hc hkl) J J J ?_)))));rintro _ rfl;refine A5 (I8 J) J (D2 (l4 820 J J J) J (A6 J J (A4 ?_)));refine k1 (D9 (J41 821 AL.State 7 A20 117 (kb:=820) (o:=2) rfl rfl rfl) ?_)
 refine k2 (A2 (A3 J J (A5 (I8 J) J (H4 (n5 [] ⟨4,⟨0,0,0,0⟩,0,0⟩ (by decide) J J) J J J ?_))));rintro _ _ ⟨rfl,rfl⟩;refine A6 J J (A4 ?_);refine k1 (k2 (A2 (A3 J J (A3 J J (F3 J J (A5 (K1 J J (by omega)) J (A3 J J (H4 (C24 hc hkl hwl F F (Nat.le_refl _) ((L.length:Int) - 1) 0 [⟨4,⟨0,0,0,0⟩,0,0⟩] st r hb ⟨by omega,by omega⟩ hst J J J) J J J ?_))))))));rintro _ _ ⟨rfl,rfl⟩;refine A6 J J (A4 ?_);refine k1 (k2 (A2 (A3 J J (A5 (B2 J) J (A5 (A7 J) J (G3 J J J J (A3 J J (A5 (I8 J) J (H7 (C4 TySz.out J J J J J J) (A6 J J (A4 ?_)))))))))));refine k1 (D9 (Sees.freezeG (k:=821) (α:=AL.State) (ec:=7) (c:=A20) (xs:=st) (e:=117) rfl rfl) ?_)
 refine k10 ?_
 exact B7 (rs:=[A21 ⟨st,r⟩,G1 0]) (H94 rfl rfl rfl rfl rfl rfl rfl) rfl
theorem D48 (p:Str) (L:List AL.Node) (A:AL.Auto) (hp:FnOk Tryz.prog 37 [M1 p] (fun rs=>rs=[x7 L,G1 0])) (hb:FnOk Tryz.prog 38 [x7 L] (fun rs=>rs=[A21 A,G1 0])) :
  FnOk Tryz.prog 24 [M1 p] (fun rs=>rs=[A21 A,G1 0]):=by
 refine FnOk.intro Tryz.func24 (by decide) J J J J ?_
 refine k2 (A2 (D2 (I9 2 J) J (A6 J J (A4 ?_))));refine k1 (k2 (A2 (A3 J J (D8 (hp) J J J ?_))));rintro _ rfl;refine A3 J J (H5 J J J (H5 J J J (A6 J J (A6 J J (A4 ?_)))));refine k1 (k2 (k2 (A2 (A3 J J (A5 (T9 J J) J (A4 ?_))))));refine k1 ?_;refine B0 rfl (fun ht=>?_) (fun ht=>?_)
 ·cases ht
 refine k5 (k1 (k2 (A2 (A3 J J (D8 (hb) J J J ?_)))));rintro _ rfl;refine H5 J J J (H5 J J J (H7 (C4 TySz.out J J J J J J) (A6 J J (A4 ?_))));refine k1 (k10 ?_)
 exact B7 (rs:=[A21 A,G1 0]) (H94 rfl rfl rfl rfl rfl rfl rfl) rfl
set_option maxHeartbeats 1000000
abbrev E44 (A:AL.Auto):Unit→Nat→Cell:=fun _ j=>[Cell.list AL.State 7 A20 A.States,Cell.v (.int .i64 A.Start)].getD j (.v undef)
theorem H58 (A:AL.Auto) (hA:AG A):FnOk Tryz.prog 78 [A21 A] (fun rs=>rs=[G1 0]):=by
 obtain ⟨hl1,hl2⟩:=hA.len
 have hst:=hA.start
 obtain ⟨n,hn⟩:∃n,n=A.States.length:=⟨_,rfl⟩
 have hgd:=hA.good
 rw [←hn] at hl1 hl2 hst hgd
 refine FnOk.intro Tryz.func78 (by decide) J J J J ?_
 refine k2 (A2 (A5 (m9 J J J) J (A6 J J (A4 ?_))));refine k1 (k2 (A2 (A5 (C5 J) J (A5 (B1 J J) J (F3 J J (D2 (I9 3 J) J (H7 (C4 TySz.out J J J J J J) (A4 ?_))))))));refine k1 (k2 (A2 (A5 (m8 J J) J (A6 J J (A4 ?_)))));refine k1 (k2 (k2 ?_))
 have hd1:decide ((n:Int) < 1)=false:=decide_eq_false (by omega)
 have hd2:decide ((8000:Int) < n)=false:=decide_eq_false (by omega)
 have hd3:decide (0≤A.Start∧A.Start < (n:Int))=true:=decide_eq_true hst
 rw [←hn]
 refine A2 (G3 J J J J (G7 J J J (A3 J J (G6 J J J hd1 (G3 J J J J (G6 J J J hd1 (A5 (R8 J J) J (A5 (W9 J (hd1) J) J (A3 J J (G6 J J J hd2 (A3 J J (G6 J J J hd2 (A5 (C5 J) J (G6 J J J hd2 (A5 (B1 J J) J (G6 J J J hd2 (A96 (B51 A.Start n J) J J J J ?_)))))))))))))))));rintro _ _ ⟨rfl,rfl⟩;refine G6 J J J hd2 (A5 (U0 J) J (A5 (W9 J (hd2) J) J (A4 ?_)))
 rw [hd3]
 refine k1 ?_;refine B0 rfl (fun ht=>?_) (fun ht=>?_)
 ·cases ht
 refine k5 (k1 (k2 (k2 (A2 (A5 (C5 J) J (A5 (B1 J J) J (F3 J J (A3 J J (A4 ?_)))))))));refine k1 (k3 (D6 (X:=Nat) (fun i=>([(3,.s (.one (.ref 3 0))),(4,.s (.one (.clo 111 [] [(3,0)]))),(26,.s (I34 A.States).s1),(27,C3 n),(28,C3 i)],[(3,.box [.p (.v (.int .i64 n))])])) (fun i=>i≤n) (fun i=>n - i) 0 (Nat.zero_le _) (Sees.of ⟨le1 rfl,le1 rfl,le1 rfl,leE J (by first | (simp;done) | (simp;omega)),le1 rfl,trivial⟩ ⟨rfl,trivial⟩) ?_))
 intro i hi
 dsimp only at hi ⊢
 refine k2 (A2 (G7 J J J (A4 ?_)));refine k1 (k2 ?_);refine B0 rfl (fun ht=>?_) (fun ht=>?_)
 ·have hlt:i < n:=Int.ofNat_lt.1 (A0 ht)
  obtain ⟨q,hq⟩:∃q,q=A.States[i]'(by omega):=⟨_,rfl⟩
  have hv:A.States[i]?=some q:=by rw [hq];exact J60 (by omega)
  have hK:=o6 (hgd q (J69 hv))
  obtain ⟨b,hb⟩:∃b,b=decide (0≤q.Next∧q.Next < (n:Int)):=⟨_,rfl⟩
  have hbt:¬q.Kind=4→b=true:=fun h4=>by rw [hb];exact decide_eq_true (by omega)
  refine k5 (k1 (k2 (k3 (k2 (A2 (A5 (B3 J (.pure _ _ _ _) J (by omega) hv) J (A5 (E3 J J) J (D2 (I9 6 J) J (H7 (C4 TySz.out J J J J J J) (A4 ?_))))))))));refine k1 (k2 (A2 (A3 J J (A5 (A7 J) J (G3 J J J J (A96 (B51 q.Next n J) J J J J ?_))))));rintro _ _ ⟨rfl,rfl⟩;refine A6 J J (A4 ?_)
  rw [←hb]
  refine k1 (k2 (k2 (A2 (A5 (A7 J) J (G3 J J J J (A4 ?_))))));refine k1 ?_;refine B72 [(3,.s (.one (.ref 3 0))),(4,.s (.one (.clo 111 [] [(3,0)]))),(26,.s (I34 A.States).s1),(27,C3 n),(28,C3 i),(7,R0 true)] [(3,.box [.p (.v (.int .i64 n))])] ?_ ?_
  ·refine k3 (k2 (k2 (A2 (A5 (F4 J J) J (A6 J J (A4 ?_))))));refine k1 ?_;refine B0 rfl (fun ht=>?_) (fun ht=>?_)
   ·rw [hbt (by have:=A0 ht;omega)]
    refine k5 (k1 ?_);refine B0 rfl (fun ht=>?_) (fun ht=>?_)
    ·refine k5 (k4 (k1 ?_))
     exact Sees.of ⟨le1 rfl,le1 rfl,le1 rfl,le1 rfl,le1 rfl,le1 rfl,trivial⟩ ⟨rfl,trivial⟩
    ·exact absurd (A0 (by assumption)) (A1 ht)
   have hK0:¬q.Kind=0:=A1 ht
   refine k2 (A2 (A5 (F4 J J) J (A6 J J (A4 ?_))));refine k1 ?_;refine B0 rfl (fun ht=>?_) (fun ht=>?_)
   ·rw [hbt (by have:=A0 ht;omega)]
    refine k5 (k1 ?_);refine B0 rfl (fun ht=>?_) (fun ht=>?_)
    ·refine k5 (k4 (k1 ?_))
     exact Sees.of ⟨le1 rfl,le1 rfl,le1 rfl,le1 rfl,le1 rfl,le1 rfl,trivial⟩ ⟨rfl,trivial⟩
    ·exact absurd (A0 (by assumption)) (A1 ht)
   have hK2:¬q.Kind=2:=A1 ht
   skip
   refine A2 (A5 (F4 J J) J (A6 J J (A4 ?_)));refine k1 ?_;refine B0 rfl (fun ht=>?_) (fun ht=>?_)
   ·rw [hbt (by have:=A0 ht;omega)]
    refine k5 (k4 (k1 ?_))
    exact Sees.of ⟨le1 rfl,le1 rfl,le1 rfl,le1 rfl,le1 rfl,le1 rfl,trivial⟩ ⟨rfl,trivial⟩
   have hK3:¬q.Kind=3:=A1 ht
   refine k2 (A2 (A5 (F4 J J) J (A6 J J (A4 ?_))));refine k1 ?_;refine B0 rfl (fun ht=>?_) (fun ht=>?_)
   ·skip
    have hK1:q.Kind=1:=A0 ht
    have hO:decide (0≤q.Other∧q.Other < (n:Int))=true:=decide_eq_true (by omega)
    rw [hbt (by omega)]
    refine A2 (A3 J J (A3 J J (G6 J J J J (A3 J J (G6 J J J J (A5 (A7 J) J (G6 J J J J (G3 J J J J (G6 J J J J (A96 (B51 q.Other n J) J J J J ?_))))))))));rintro _ _ ⟨rfl,rfl⟩;refine A5 (D7 J (fun h=>by first | rfl | (rw [h];rfl)) (fun h=>by first | rfl | (rw [h];rfl))) J ?_;refine A6 J J (A4 ?_)
    rw [hO]
    refine k4 (k1 ?_)
    exact Sees.of ⟨le1 rfl,le1 rfl,le1 rfl,le1 rfl,le1 rfl,le1 rfl,trivial⟩ ⟨rfl,trivial⟩
   have hK1:¬q.Kind=1:=A1 ht
   refine k2 (A2 (A5 (F4 J J) J (A6 J J (A4 ?_))));refine k1 ?_;refine B0 rfl (fun ht=>?_) (fun ht=>?_)
   ·skip
    refine A2 (A6 J J (A4 ?_));refine k4 (k1 ?_)
    exact Sees.of ⟨le1 rfl,le1 rfl,le1 rfl,le1 rfl,le1 rfl,le1 rfl,trivial⟩ ⟨rfl,trivial⟩
   have hK4:¬q.Kind=4:=A1 ht
   exfalso
   omega
  refine k2 (A2 (A3 J J (A5 (U0 J) J (A4 ?_))));refine k1 ?_;refine B0 rfl (fun ht=>?_) (fun ht=>?_)
  ·cases ht
  refine k5 (k4 (k1 (A2 (E4 J J J (A3 J J (A4 ?_))))));refine k1 ?_
  exact ⟨i+1,Nat.succ_le_of_lt hlt,Nat.sub_lt_sub_left hlt (Nat.lt_succ_self i),Sees.of ⟨le1 rfl,le1 rfl,le1 rfl,le1 rfl,le1 rfl,trivial⟩ ⟨rfl,trivial⟩⟩
 refine k6 (k2 (A2 (A6 J J (A4 ?_))));refine k1 (k10 ?_)
 exact B7 (rs:=[G1 0]) (I4 rfl rfl rfl) rfl
set_option maxHeartbeats 1000000
abbrev macG (A:AL.Auto) (s:Str) (a:Nat) (x y:TC):Ob:=.box [.p (.list AL.State 7 A20 A.States),.p (.v (.int .i64 A.Start)),.p (.v (.string ⟨s.toArray⟩)),.p (.v (.int .i64 a)),x,y]
abbrev A11 (A:AL.Auto) (s:Str) (a:Nat):Ob:=macG A s a (.mut 831) (.mut 832)
abbrev x2:S1:=.one (.ref 830 0)
abbrev thO (l:List AL.Thread):Ob:=.grow 186 AL.Thread 2 Y5 l
abbrev snO (l:List Bool):Ob:=.arr Bool 1 I28 l
abbrev pThr (t:AL.Thread):PV:=.agg [.v (.int .i64 t.state),.v (.int .i64 t.from_)]
theorem H59 (A:AL.Auto) (s:Str) (hA:AG A):AL.Met Tryz.prog 112 [(A21 A).s1,.one (.p (.v (.string ⟨s.toArray⟩))),M3 0] [] [] []
  (fun rs ob'=>rs=[x2]∧ob'=[(830,macG A s 0 (.p (.v (.slice none 0 0))) (.mut 832)),(832,snO (List.replicate A.States.length false))]):=by
 have h6:=hA.len
 refine AL.Met.intro Tryz.func112 (by decide) J J J ?_
 refine k2 (A2 (A5 (m9 J J J) J (A6 J J (A4 ?_))));refine k1 (k2 (N6 [8,6] [[],[6],[8,6]] [(6,([832],[])),(8,([830],[]))] [(0,[]),(1,[]),(2,[]),(3,[]),(4,[]),(5,[]),(6,[]),(7,[6]),(8,[6]),(9,[8,6])] [(0,[6]),(1,[6]),(2,[6])] (by kernel_rfl) (by kernel_rfl) (E2 J J (by kernel_rfl) J J (E3 J J) (E2 J J (by kernel_rfl) J J (C8 J J) (E2 J J (by kernel_rfl) J J (C8 J J) (E2 J J (by kernel_rfl) J J (C5 J) (E2 J J (by kernel_rfl) J J (B1 J J) (E2 J J (by kernel_rfl) J J (r5 J (.pure _ _ _ _)) (U9 J J (by kernel_rfl) J J (D90 (fun frc hU hk=>A30 832 Bool I28 false (Q5 hU J) (Q5 hU J) (by (first | omega | decide)) (by (first | omega | decide)) (fun _=>by first | exact ⟨⟨rfl,rfl⟩,trivial⟩ | exact ⟨I5 _ _ _,trivial⟩ | exact ⟨I5 _ _ _,⟨rfl,rfl⟩,I5 _ _ _,trivial⟩) (by rw [hk];rfl))) J ?_)))))))));refine E2 J J (by kernel_rfl) J J (I8 J) (U9 J J (by kernel_rfl) J J (D90 (fun frc hU hk=>l4 830 (Q5 hU J) J (by rw [hk];rfl))) J ?_);refine E2 J J (by kernel_rfl) J J (J8 J J) ?_;refine F12 (by kernel_rfl) rfl ?_ ?_
 ·refine M2 J J (by kernel_rfl) J J (E3 J J) (M2 J J (by kernel_rfl) J J (C8 J J) (M2 J J (by kernel_rfl) J J (C8 J J) ?_));exact B41
 refine k1 (k10 ?_)
 exact E0 (H9 rfl rfl) (by repeat (first | exact A8 | refine tail_drop rfl ?_ | refine A9 rfl ?_)) (fun _ _ h=>h) ⟨rfl,by rw [J62];rfl⟩
theorem F28 {gf:Fr} {ob:Obs} (A:AL.Auto) (s:Str) (hA:AG A) (a:Nat) (q fr:Int) (m0 R:Mach) (hm0:MG A m0) (hq:0≤q∧q < A.States.length) (hR0:C84 A s a ⟨q,fr⟩ m0=R)
  (h0:B4 ob 830=some (A11 A s a)) (h1:B4 ob 831=some (thO m0.1)) (h2:B4 ob 832=some (snO m0.2)) (h3:B4 ob 834=none) :
  AL.Met Tryz.prog 113 [x2,(pThr ⟨q,fr⟩).s1] gf ob [831,834] (fun rs ob'=>rs=[]∧ob'=(830,A11 A s a)::(831,thO R.1)::(832,snO R.2)::G4 [831,834] ob):=by
 obtain ⟨hn1,hn2⟩:=hA.len
 refine AL.Met.introH Tryz.func113 (by decide) rfl rfl rfl (fun hH=>?_)
 refine D9 (J37 831 (l:=[(0,.s x2),(1,.s (pThr ⟨q,fr⟩).s1)]) (L:=[(830,_),(831,_),(832,_)]) ⟨le1 rfl,le1 rfl,trivial⟩ hH (by repeat (first | exact A8 | refine A9 rfl ?_)) ⟨h0,h1,h2,trivial⟩) ?_
 refine D9 (Sees.forget 834) ?_
 refine D9 (J36 (gf':=C1 [831,834] gf) (l:=[(0,.s x2),(1,.s (pThr ⟨q,fr⟩).s1)]) (ob':=[(830,A11 A s a),(831,thO m0.1),(832,snO m0.2)]++G4 [831,834] ob) ⟨le1 rfl,le1 rfl,trivial⟩ (D3 hH) (by repeat (first | exact A8 | refine tail_drop rfl ?_ | refine A9 rfl ?_ | refine F2 _ rfl ?_)) (C9 (L:=[(830,_),(831,_),(832,_)]) ⟨rfl,rfl,rfl,trivial⟩ (by repeat (first | exact B8 | refine C0 rfl ?_)))) ?_
 have hf3:B4 (G4 [831,834] ob) 834=none:=S9 h3
 refine k2 (A2 (A5 (m9 J J J) J (A4 ?_)));refine k1 (k2 (A2 (A5 (C5 J) J (A5 (B1 J J) J (D2 (I42 834 (c:=F0) (ys:=[q]) (E5 J J J J H1) J J J hf3 J) J (A6 J J (A4 ?_)))))));refine k1 (k3 ?_);refine D6 (X:=Nat × List Int × Mach) (fun x=>([(0,.s x2),(3,.s (.one (.eref Unit 2 (fun _ j=>[Cell.v (.int .i64 q),Cell.v (.int .i64 fr)].getD j (.v undef)) () 0))),(4,.s (.one (.mut 834)))]++C1 [831,834] gf,[(830,A11 A s a),(831,thO x.2.2.1),(832,snO x.2.2.2),(834,.grow 3 Int 1 F0 x.2.1)]++G4 [831,834] ob)) (fun x=>muA x.2.1 x.2.2 < x.1∧y2 A s a fr x.1 x.2.1 x.2.2=R∧muA x.2.1 x.2.2≤24001∧MG A x.2.2∧∀k∈x.2.1,0≤k∧k < A.States.length) (fun x=>muA x.2.1 x.2.2) (3*A.States.length+2,[q],m0) ?_ ?_ ?_
 ·have h6:=hm0.cnt
  refine ⟨?_,hR0,?_,hm0,fun k hk=>by rw [List.mem_singleton.1 hk];exact hq⟩
  ·unfold muA;simp only [List.length_singleton];omega
  ·unfold muA;simp only [List.length_singleton];omega
 ·exact J36 ⟨le1 rfl,le1 rfl,le1 rfl,trivial⟩ (D3 hH) (by repeat (first | exact A8 | refine tail_drop rfl ?_ | refine A9 rfl ?_ | refine F2 _ rfl ?_)) (C9 (L:=[(830,_),(831,_),(832,_),(834,_)]) ⟨rfl,rfl,rfl,rfl,trivial⟩ (by repeat (first | exact B8 | refine C0 rfl ?_ | refine K6 _ rfl ?_)))
 rintro ⟨f,opn,m⟩ ⟨hf,hR,hmu,hm,hop⟩
 dsimp only at hf hR hmu hm hop ⊢
 have hol:opn.length≤24001:=by unfold muA at hmu;omega
 have hcn:=hm.cnt
 have hsn:=hm.sl
 refine k2 (k2 (A2 (A3 J J (A5 (T3 J J) J (A5 (R8 J J) J (A4 ?_))))));refine k1 ?_;refine B0 rfl (fun ht=>?_) (fun ht=>?_)
 rotate_left
 ·have hy0:opn=[]:=List.length_eq_zero_iff.1 (by have:=A1 ht;omega)
  rw [hy0,F50] at hR
  rw [hR]
  refine k6 (k7 (k7 (k8 J ?_)))
  exact P6 (A31 rfl) (by repeat (first | exact A8 | refine tail_drop rfl ?_ | refine A9 rfl ?_ | refine F2 _ rfl ?_)) (C9 (L:=[(830,_),(831,_),(832,_)]) ⟨rfl,rfl,rfl,trivial⟩ (by repeat (first | exact B8 | refine C0 rfl ?_ | refine D4 hf3 ?_ | refine K6 _ rfl ?_))) ⟨rfl,rfl⟩
 have hpos:0 < opn.length:=by have:=A0 ht;omega
 obtain ⟨i,hi⟩:∃i,opn.getLast?=some i:=by
  cases h:opn.getLast? with
  | none=>rw [List.getLast?_eq_none_iff] at h;rw [h] at hpos;cases hpos
  | some i=>exact ⟨i,rfl⟩
 obtain ⟨_,hig,him⟩:=C88 hi
 obtain ⟨g3,g4⟩:=hop i him
 obtain ⟨f',opn',m',hff,hR',hf',hmu',hm',hop',hseen,hnew⟩:=D70 s hA hm hop hf hR hi
 have hvl:opn[((opn.length:Int) - 1).toNat]?=some i:=by rw [show ((opn.length:Int) - 1).toNat=opn.length - 1 by omega];exact hig
 have hcut:opn.take ((opn.length:Int) - 1).toNat=opn.dropLast:=by rw [List.dropLast_eq_take];congr 1;omega
 obtain ⟨r,hr⟩:∃r,r=opn.dropLast:=⟨_,rfl⟩
 have hrl:r.length≤24001:=by rw [hr,List.length_dropLast];omega
 rw [←hr] at hcut hseen hnew
 obtain ⟨b,hb⟩:∃b,b=K7 m.2 i.toNat:=⟨_,rfl⟩
 have hvb:m.2[i.toNat]?=some b:=by rw [hb];exact H86 (by rw [hm.sl];omega)
 rw [←hb] at hseen hnew
 have hvs:=C86 (A:=A) ⟨g3,g4⟩
 refine k5 (k1 (k3 (k2 (A2 (A3 J J (A3 J J (A5 (T3 J J) J (A5 (K1 J J (by omega)) J (A5 (H0 J J J (by omega) (by omega)) J (A5 (t6 J J hvl J) J (A6 J J (A4 ?_))))))))))));refine k1 (k2 (A2 (A3 J J (A3 J J (A5 (T3 J J) J (A5 (K1 J J (by omega)) J (D2 (A37 J J J (by omega) (by omega) J) J (A6 J J (A4 ?_)))))))))
 rw [hcut]
 refine k1 (k2 (k2 (A2 (A3 J J (A5 (B2 J) J (A5 (A7 J) J (G3 J J J J (A3 J J (A5 (G8 J J J (by omega) (by omega)) J (A5 (M7 J J hvb J) J (A4 ?_)))))))))));refine k1 ?_;refine B0 rfl (fun ht=>?_) (fun ht=>?_)
 ·obtain ⟨e1,e2⟩:=hseen ht
  refine k6 (k7 (k8 J (k1 ?_)));refine ⟨(f',opn',m'),⟨hf',hR',(by dsimp only;omega),hm',hop'⟩,hmu',?_⟩
  rw [e1,e2]
  exact J36 ⟨le1 rfl,le1 rfl,le1 rfl,trivial⟩ (D3 hH) (by repeat (first | exact A8 | refine tail_drop rfl ?_ | refine A9 rfl ?_ | refine F2 _ rfl ?_)) (C9 (L:=[(830,_),(831,_),(832,_),(834,_)]) ⟨rfl,rfl,rfl,rfl,trivial⟩ (by repeat (first | exact B8 | refine C0 rfl ?_ | refine K6 _ rfl ?_)))
 obtain ⟨e1,e2⟩:=hnew ht
 have hA0:decide ((a:Int)=0)=decide (a=0):=decide_eq_decide.2 (by omega)
 have hA1:decide ((a:Int)=(s.length:Int))=decide (a=s.length):=decide_eq_decide.2 (by omega)
 rw [←hA0,←hA1] at e1
 obtain ⟨hsl,_⟩:=C87 hA ⟨g3,g4⟩ (decide ((a:Int)=0)) (decide ((a:Int)=(s.length:Int)))
 refine k5 (k1 (k2 (A2 (A3 J J (A5 (B2 J) J (A5 (A7 J) J (G3 J J J J (A3 J J (A5 (G8 J J J (by omega) (by omega)) J (H7 (L2 TySz.out J J (by omega) J J) (A4 ?_)))))))))));refine k1 (k2 ?_);refine D9 (J36 (gf':=C1 [831,834] gf) (l:=[(0,.s x2),(3,.s (.one (.eref Unit 2 (fun _ j=>[Cell.v (.int .i64 q),Cell.v (.int .i64 fr)].getD j (.v undef)) () 0))),(4,.s (.one (.mut 834))),(5,C3 i)]) (ob':=[(830,A11 A s a),(831,thO m.1),(832,snO (m.2.set i.toNat true)),(834,.grow 3 Int 1 F0 r)]++G4 [831,834] ob) ⟨le1 rfl,le1 rfl,le1 rfl,le1 rfl,trivial⟩ (D3 hH) (by repeat (first | exact A8 | refine tail_drop rfl ?_ | refine A9 rfl ?_ | refine F2 _ rfl ?_)) (C9 (L:=[(830,_),(831,_),(832,_),(834,_)]) ⟨rfl,rfl,rfl,rfl,trivial⟩ (by repeat (first | exact B8 | refine C0 rfl ?_ | refine K6 _ rfl ?_)))) ?_
 refine N6 [13,10] [[],[10],[13,10]] [(10,([831],[40])),(13,([],[]))] [(0,[]),(1,[]),(2,[]),(3,[]),(4,[]),(5,[]),(6,[]),(7,[]),(8,[]),(9,[]),(10,[]),(11,[10]),(12,[10]),(13,[10])] [(0,[10])] (by kernel_rfl) (by kernel_rfl) (E2 J J (by kernel_rfl) J J (C8 J J) (E2 J J (by kernel_rfl) J J (C8 J J) (E2 J J (by kernel_rfl) J J (B2 J) (E2 J J (by kernel_rfl) J J (A7 J) (E2 J J (by kernel_rfl) J J (C6 J J J) (E2 J J (by kernel_rfl) J J (C8 J J) (E2 J J (by kernel_rfl) J J (C5 J) (E2 J J (by kernel_rfl) J J (B1 J J) (E2 J J (by kernel_rfl) J J (I8 J) (E2 J J (by kernel_rfl) J J (D1 (c:=Y5) (ys:=[⟨i,fr⟩]) (E5 J J J J H1) J J J) (U9 J J (by kernel_rfl) J J (D04 (fun frc hU=>Q8 (Q5 hU J) J (Q5 hU J) (.pure _ _ _ _) (by (simp only [J64,J68];omega)) J)) J (E2 J J (by kernel_rfl) J J (B2 J) (E2 J J (by kernel_rfl) J J (A7 J) (U9 J J (by kernel_rfl) J J (A34 (fun frc hU=>C4 TySz.out (Q5 hU J) J (Q5 hU J) J J J)) J ?_))))))))))))));refine D05 (ks:=[831,834]) rfl (by kernel_rfl) rfl ?_ ?_
 ·refine M2 J J (by kernel_rfl) J J (C8 J J) ?_;exact B41
 refine k1 ?_;refine D9 (J36 (gf':=C1 [831,834] gf) (l:=[(0,.s x2),(3,.s (.one (.eref Unit 2 (fun _ j=>[Cell.v (.int .i64 q),Cell.v (.int .i64 fr)].getD j (.v undef)) () 0))),(4,.s (.one (.mut 834))),(5,C3 i)]) (ob':=[(830,A11 A s a),(831,thO (m.1++[⟨i,fr⟩])),(832,snO (m.2.set i.toNat true)),(834,.grow 3 Int 1 F0 r)]++G4 [831,834] ob) ⟨le1 rfl,le1 rfl,le1 rfl,le1 rfl,trivial⟩ (D3 hH) (by repeat (first | exact A8 | refine tail_drop rfl ?_ | refine A9 rfl ?_ | refine F2 _ rfl ?_)) (C9 (L:=[(830,_),(831,_),(832,_),(834,_)]) ⟨rfl,rfl,rfl,rfl,trivial⟩ (by repeat (first | exact B8 | refine C0 rfl ?_ | refine K6 _ rfl ?_)))) ?_
 refine F5 (by kernel_rfl) (by kernel_rfl) (F9 J J (F9 J J (B5 (B2 J) J J (B5 (A7 J) J J (B5 (A7 J) J J (B5 (C6 J J J) J J (F9 J J (B5 (B3 J (.pure _ _ _ _) J (by omega) hvs) J J (B5 (E3 J J) J J (F9 J J (B5 (B2 J) J J (B5 (A7 J) J J (B5 (C6 J J J) J J (B5 (F4 J J) J J (F9 J J (B5 (B2 J) J J (B5 (A7 J) J J (B5 (C6 J J J) J J (F9 J J (B5 (B2 J) J J (B5 (A7 J) J J (B5 (C6 J J J) J J (B5 (N2 J) J J ?_)))))))))))))))))))))));refine B5 (F4 J J) J J (B5 (U4 (J11 (P2 A i) (decide ((a:Int)=0)) (decide ((a:Int)=(s.length:Int)))) J J) J J (d_effv (Q8 J J J (.pure _ _ _ _) (by omega) J) J J (B5 (J8 J J) J J (R1 ?_))));refine k4 (k1 ?_);refine ⟨(f',opn',m'),⟨hf',hR',(by dsimp only;omega),hm',hop'⟩,hmu',?_⟩
 rw [e1,e2]
 exact J36 ⟨le1 rfl,le1 rfl,le1 rfl,trivial⟩ (D3 hH) (by repeat (first | exact A8 | refine tail_drop rfl ?_ | refine A9 rfl ?_ | refine F2 _ rfl ?_)) (C9 (L:=[(830,_),(831,_),(832,_),(834,_)]) ⟨rfl,rfl,rfl,rfl,trivial⟩ (by repeat (first | exact B8 | refine C0 rfl ?_ | refine K6 _ rfl ?_)))
set_option maxHeartbeats 1000000
theorem F90 {α:Type} {l:List α} {i:Nat} {x:α} (h:l[i]?=some x):l.take (i+1)=l.take i++[x]:=by rw [List.take_add_one,h];rfl
theorem E45 {gf:Fr} {ob:Obs} (A:AL.Auto) (s:Str) (a:Nat) (th:List AL.Thread) (sn:List Bool) (hst:∀t∈th,0≤t.state∧t.state < A.States.length) (hl:th.length≤8000) (h0:B4 ob 830=some (A11 A s a)) (h1:B4 ob 831=some (thO th)) (h2:B4 ob 832=some (snO sn)) (h3:B4 ob 835=none) :
  AL.Met Tryz.prog 114 [x2] gf ob [835] (fun rs ob'=>rs=[M3 (P3 A th)]∧ob'=(830,A11 A s a)::(831,thO th)::(832,snO sn)::G4 [835] ob):=by
 refine AL.Met.introH Tryz.func114 (by decide) rfl rfl rfl (fun hH=>?_)
 refine D9 (J37 835 (l:=[(0,.s x2)]) (L:=[(830,_),(831,_),(832,_)]) ⟨le1 rfl,trivial⟩ hH (by repeat (first | exact A8 | refine A9 rfl ?_)) ⟨h0,h1,h2,trivial⟩) ?_
 refine D9 (J36 (gf':=C1 [835] gf) (l:=[(0,.s x2)]) (ob':=[(830,A11 A s a),(831,thO th),(832,snO sn)]++G4 [835] ob) ⟨le1 rfl,trivial⟩ (D3 hH) (by repeat (first | exact A8 | refine tail_drop rfl ?_ | refine A9 rfl ?_ | refine F2 _ rfl ?_)) (C9 (L:=[(830,_),(831,_),(832,_)]) ⟨rfl,rfl,rfl,trivial⟩ (by repeat (first | exact B8 | refine C0 rfl ?_)))) ?_
 have hf3:B4 (G4 [835] ob) 835=none:=S9 h3
 refine k2 (A2 (A6 J J (A4 ?_)));refine k1 (k2 (k2 (A2 (A3 J J (A5 (B2 J) J (A5 (A7 J) J (G3 J J J J (A5 (T3 J J) J (A3 J J (A4 ?_))))))))));refine k1 (k3 ?_);refine D6 (X:=Nat) (fun i=>([(0,.s x2),(8,.s (.one (.mut 831))),(9,C3 th.length),(10,C3 i)]++C1 [835] gf,[(830,A11 A s a),(831,thO th),(832,snO sn)]++G4 [835] ob)) (fun i=>i≤th.length∧P3 A (th.drop i)=P3 A th) (fun i=>th.length - i) 0 ⟨Nat.zero_le _,rfl⟩ ?_ ?_
 ·exact J36 ⟨le1 rfl,le1 rfl,le1 rfl,le1 rfl,trivial⟩ (D3 hH) (by repeat (first | exact A8 | refine tail_drop rfl ?_ | refine A9 rfl ?_ | refine F2 _ rfl ?_)) (C9 (L:=[(830,_),(831,_),(832,_)]) ⟨rfl,rfl,rfl,trivial⟩ (by repeat (first | exact B8 | refine C0 rfl ?_ | refine D4 hf3 ?_ | refine K6 _ rfl ?_)))
 rintro i ⟨hi,hA⟩
 dsimp only at hi hA ⊢
 refine k2 (A2 (G7 J J J (A4 ?_)));refine k1 (k2 ?_);refine B0 rfl (fun ht=>?_) (fun ht=>?_)
 rotate_left
 ·have hie:i=th.length:=by have:=A1 ht;omega
  rw [hie,List.drop_length] at hA
  rw [←hA]
  refine k6 (k2 (A2 (A6 J J (A4 ?_))));refine k1 (k10 ?_)
  exact E0 (H9 rfl rfl) (by repeat (first | exact A8 | refine tail_drop rfl ?_ | refine A9 rfl ?_ | refine F2 _ rfl ?_)) (C9 (L:=[(830,_),(831,_),(832,_)]) ⟨rfl,rfl,rfl,trivial⟩ (by repeat (first | exact B8 | refine C0 rfl ?_ | refine D4 hf3 ?_ | refine K6 _ rfl ?_))) ⟨rfl,rfl⟩
 have hlt:i < th.length:=by have:=A0 ht;omega
 obtain ⟨t,htd⟩:∃t,t=th[i]:=⟨_,rfl⟩
 have hv:th[i]?=some t:=by rw [htd];simp [hlt]
 obtain ⟨hs1,hs2⟩:=hst t (J69 hv)
 have hvs:=C86 (A:=A) ⟨hs1,hs2⟩
 rw [J71 hlt,←htd,P3] at hA
 refine k5 (k1 (k2 (k3 (k2 (A2 (A5 (H0 J J J (by omega) (by omega)) J (A5 (z6 J J hv J) J (D2 (C42 835 hf3 (by decide)) J (H7 (C4 TySz.out J J J J J J) (A4 ?_))))))))));refine k1 (k2 (F5 (by kernel_rfl) (by kernel_rfl) (F9 J J (B5 (B2 J) J J (B5 (A7 J) J J (B5 (A7 J) J J (B5 (C6 J J J) J J (B5 (A7 J) J J (B5 (C6 J J J) J J (B5 (B3 J (.pure _ _ _ _) J (by omega) hvs) J J (B5 (C5 J) J J (B5 (B1 J J) J J (B5 (F4 J J) J J (R1 ?_))))))))))))));refine k1 ?_;refine B0 rfl (fun ht=>?_) (fun ht=>?_)
 ·have hK:(P2 A t.state).Kind=4:=A0 ht
  rw [if_pos hK] at hA
  rw [←hA]
  refine k2 (A2 (A5 (A7 J) J (G3 J J J J (A6 J J (A4 ?_)))));refine k1 (k10 (k12 (k11 (k11 (k12 (k11 ?_))))))
  exact E0 (H9 rfl rfl) (by repeat (first | exact A8 | refine tail_drop rfl ?_ | refine A9 rfl ?_ | refine F2 _ rfl ?_)) (C9 (L:=[(830,_),(831,_),(832,_)]) ⟨rfl,rfl,rfl,trivial⟩ (by repeat (first | exact B8 | refine C0 rfl ?_ | refine D4 hf3 ?_ | refine K6 _ rfl ?_))) ⟨rfl,rfl⟩
 have hK:¬(P2 A t.state).Kind=4:=A1 ht
 rw [if_neg hK] at hA
 refine k5 (k4 (k1 (A2 (E4 J J J (A3 J J (A4 ?_))))));refine k1 ?_
 exact ⟨i+1,⟨by omega,hA⟩,by omega,J36 ⟨le1 rfl,le1 rfl,le1 rfl,le1 rfl,trivial⟩ (D3 hH) (by repeat (first | exact A8 | refine tail_drop rfl ?_ | refine A9 rfl ?_ | refine F2 _ rfl ?_)) (C9 (L:=[(830,_),(831,_),(832,_)]) ⟨rfl,rfl,rfl,trivial⟩ (by repeat (first | exact B8 | refine C0 rfl ?_ | refine D4 hf3 ?_ | refine K6 _ rfl ?_)))⟩
theorem H60 {gf:Fr} {ob:Obs} (A:AL.Auto) (s:Str) (a:Nat) (fr:Int) (th:List AL.Thread) (sn:List Bool) (hl:th.length≤8000) (h0:B4 ob 830=some (A11 A s a)) (h1:B4 ob 831=some (thO th)) (h2:B4 ob 832=some (snO sn)) (h3:B4 ob 835=none) :
  AL.Met Tryz.prog 115 [x2,M3 fr] gf ob [831,835] (fun rs ob'=>rs=[]∧ob'=(830,A11 A s a)::(831,thO (A23 fr th))::(832,snO sn)::G4 [831,835] ob):=by
 refine AL.Met.introH Tryz.func115 (by decide) rfl rfl rfl (fun hH=>?_)
 refine D9 (J37 831 (l:=[(0,.s x2),(1,.s (M3 fr))]) (L:=[(830,_),(831,_),(832,_)]) ⟨le1 rfl,le1 rfl,trivial⟩ hH (by repeat (first | exact A8 | refine A9 rfl ?_)) ⟨h0,h1,h2,trivial⟩) ?_
 refine D9 (Sees.forget 835) ?_
 refine D9 (J36 (gf':=C1 [831,835] gf) (l:=[(0,.s x2),(1,.s (M3 fr))]) (ob':=[(830,A11 A s a),(831,thO th),(832,snO sn)]++G4 [831,835] ob) ⟨le1 rfl,le1 rfl,trivial⟩ (D3 hH) (by repeat (first | exact A8 | refine tail_drop rfl ?_ | refine A9 rfl ?_ | refine F2 _ rfl ?_)) (C9 (L:=[(830,_),(831,_),(832,_)]) ⟨rfl,rfl,rfl,trivial⟩ (by repeat (first | exact B8 | refine C0 rfl ?_)))) ?_
 have hf3:B4 (G4 [831,835] ob) 835=none:=S9 h3
 refine k2 (A2 (A3 J J (A5 (B2 J) J (A5 (A7 J) J (G3 J J J J (A5 (T3 J J) J (A3 J J (A4 ?_))))))));refine k1 (k3 ?_);refine D6 (X:=Nat) (fun i=>([(0,.s x2),(1,.s (M3 fr)),(9,.s (.one (.mut 831))),(10,C3 th.length),(11,C3 i)]++C1 [831,835] gf,[(830,A11 A s a),(831,thO th),(832,snO sn)]++G4 [831,835] ob)) (fun i=>i≤th.length∧∀t∈th.take i,t.from_≤fr) (fun i=>th.length - i) 0 ⟨Nat.zero_le _,fun _ h=>by cases h⟩ ?_ ?_
 ·exact J36 ⟨le1 rfl,le1 rfl,le1 rfl,le1 rfl,le1 rfl,trivial⟩ (D3 hH) (by repeat (first | exact A8 | refine tail_drop rfl ?_ | refine A9 rfl ?_ | refine F2 _ rfl ?_)) (C9 (L:=[(830,_),(831,_),(832,_)]) ⟨rfl,rfl,rfl,trivial⟩ (by repeat (first | exact B8 | refine C0 rfl ?_ | refine D4 hf3 ?_ | refine K6 _ rfl ?_)))
 rintro i ⟨hi,hlo⟩
 dsimp only at hi hlo ⊢
 refine k2 (A2 (G7 J J J (A4 ?_)));refine k1 (k2 ?_);refine B0 rfl (fun ht=>?_) (fun ht=>?_)
 rotate_left
 ·have hie:i=th.length:=by have:=A1 ht;omega
  have hk:A23 fr th=th:=by
   rw [C39 (i:=i) hlo (fun t h=>by rw [hie,J80 (Nat.le_refl _)] at h;cases h),hie,J67]
  rw [hk]
  refine k6 (k7 (k7 (k8 J ?_)))
  exact P6 (A31 rfl) (by repeat (first | exact A8 | refine tail_drop rfl ?_ | refine A9 rfl ?_ | refine F2 _ rfl ?_)) (C9 (L:=[(830,_),(831,_),(832,_)]) ⟨rfl,rfl,rfl,trivial⟩ (by repeat (first | exact B8 | refine C0 rfl ?_ | refine D4 hf3 ?_ | refine K6 _ rfl ?_))) ⟨rfl,rfl⟩
 have hlt:i < th.length:=by have:=A0 ht;omega
 obtain ⟨t,htd⟩:∃t,t=th[i]:=⟨_,rfl⟩
 have hv:th[i]?=some t:=by rw [htd];simp [hlt]
 refine k5 (k1 (k2 (k3 (k2 (A2 (A3 J J (A5 (H0 J J J (by omega) (by omega)) J (A5 (z6 J J hv J) J (D2 (C42 835 hf3 (by decide)) J (A6 J J (H7 (C4 TySz.out J J J J J J) (A4 ?_))))))))))));refine k1 (k2 (A2 (A5 (A7 J) J (G3 J J J J (A3 J J (A5 (R8 J J) J (A4 ?_)))))));refine k1 ?_;refine B0 rfl (fun ht=>?_) (fun ht=>?_)
 ·have hgt:t.from_ > fr:=A0 ht
  have hk:A23 fr th=th.take i:=C39 hlo (fun x hx=>by rw [hv] at hx;cases hx;exact hgt)
  rw [hk]
  refine k2 (A2 (A3 J J (A3 J J (A5 (B2 J) J (A5 (A7 J) J (G3 J J J J (A3 J J (D2 (A37 J J J (by omega) (by omega) J) J (A5 (B2 J) J (A5 (A7 J) J (H7 (C4 TySz.out J J J J J J) (A4 ?_))))))))))))
  rw [J62]
  refine k1 (k10 (k12 (k11 (k11 (k12 ?_)))))
  exact E0 (A31 rfl) (by repeat (first | exact A8 | refine tail_drop rfl ?_ | refine A9 rfl ?_ | refine F2 _ rfl ?_)) (C9 (L:=[(830,_),(831,_),(832,_)]) ⟨rfl,rfl,rfl,trivial⟩ (by repeat (first | exact B8 | refine C0 rfl ?_ | refine D4 hf3 ?_ | refine K6 _ rfl ?_))) ⟨rfl,rfl⟩
 have hle:¬t.from_ > fr:=A1 ht
 refine k5 (k4 (k1 (A2 (E4 J J J (A3 J J (A4 ?_))))));refine k1 ?_
 exact ⟨i+1,⟨by omega,fun x hx=>by
  rw [F90 hv] at hx
  rcases List.mem_append.1 hx with hx | hx
  ·exact hlo x hx
  ·rw [List.mem_singleton.1 hx];omega⟩,by omega,J36 ⟨le1 rfl,le1 rfl,le1 rfl,le1 rfl,le1 rfl,trivial⟩ (D3 hH) (by repeat (first | exact A8 | refine tail_drop rfl ?_ | refine A9 rfl ?_ | refine F2 _ rfl ?_)) (C9 (L:=[(830,_),(831,_),(832,_)]) ⟨rfl,rfl,rfl,trivial⟩ (by repeat (first | exact B8 | refine C0 rfl ?_ | refine D4 hf3 ?_ | refine K6 _ rfl ?_)))⟩
set_option maxHeartbeats 1000000
theorem E46 {gf:Fr} {ob:Obs} (A:AL.Auto) (s:Str) (hA:AG A) (a:Nat) (ha:a < s.length) (hsl:s.length≤16777216) (m0:Mach) (hm0:MG A m0) (h0:B4 ob 830=some (A11 A s a)) (h1:B4 ob 831=some (thO m0.1)) (h2:B4 ob 832=some (snO m0.2)) :
  AL.Met Tryz.prog 116 [x2] gf ob [831,832,834,837,838] (fun rs ob'=>rs=[]∧ob'=(830,A11 A s (a+1))::(831,thO (C85 A s a m0).1)::(832,snO (C85 A s a m0).2)::oZ [831,832,834,837,838] ob):=by
 obtain ⟨hn1,hn2⟩:=hA.len
 have hcn:=hm0.cnt
 obtain ⟨th,hth⟩:∃th,th=m0.1:=⟨_,rfl⟩
 obtain ⟨sn,hsn⟩:∃sn,sn=m0.2:=⟨_,rfl⟩
 have hst:=hm0.st
 obtain ⟨ch,hch⟩:∃ch,ch=s[a]:=⟨_,rfl⟩
 have hv:s[((a:Nat):Int).toNat]?=some ch:=by rw [J62,hch];simp [ha]
 have hrd:C85 A s a m0=A70 A s (a+1) ch.toNat m0.1 ([],List.replicate A.States.length false):=by
  unfold C85;rw [J65,←J62 a,hv,J62];rfl
 rw [hrd]
 rw [←hth] at h1 hst hcn ⊢
 rw [←hsn] at h2
 have hl:th.length≤8000:=by omega
 refine AL.Met.introH Tryz.func116 (by decide) rfl rfl rfl (fun hH=>?_)
 refine D9 (J37 831 (l:=[(0,.s x2)]) (L:=[(830,_),(831,_),(832,_)]) ⟨le1 rfl,trivial⟩ hH (by repeat (first | exact A8 | refine A9 rfl ?_)) ⟨h0,h1,h2,trivial⟩) ?_
 refine D9 (J37 832 (l:=[(0,.s x2)]) (L:=[(830,_),(831,_),(832,_)]) ⟨le1 rfl,trivial⟩ (A32 hH) (by repeat (first | exact A8 | refine A9 rfl ?_)) ⟨rfl,rfl,rfl,trivial⟩) ?_
 refine D9 (Sees.forget 834) ?_
 refine D9 (Sees.forget 837) ?_
 refine D9 (Sees.forget 838) ?_
 refine D9 (J36 (gf':=C1 [831,832,834,837,838] gf) (l:=[(0,.s x2)]) (ob':=[(830,A11 A s a),(831,thO th),(832,snO sn)]++oZ [831,832,834,837,838] ob) ⟨le1 rfl,trivial⟩ (D3 hH) (by repeat (first | exact A8 | refine tail_drop rfl ?_ | refine A9 rfl ?_ | refine F2 _ rfl ?_ | refine X1 rfl ?_)) (C9 (L:=[(830,_),(831,_),(832,_)]) ⟨rfl,rfl,rfl,trivial⟩ (by repeat (first | exact oZ_base | refine C0 rfl ?_)))) ?_
 have z1:K0 831 (oZ [831,832,834,837,838] ob)=true:=C59 rfl rfl
 have z2:K0 832 (oZ [831,832,834,837,838] ob)=true:=C59 rfl rfl
 have z3:K0 834 (oZ [831,832,834,837,838] ob)=true:=C59 rfl rfl
 have z4:K0 837 (oZ [831,832,834,837,838] ob)=true:=C59 rfl rfl
 have z5:K0 838 (oZ [831,832,834,837,838] ob)=true:=C59 rfl rfl
 have f1:J6 831 (C1 [831,832,834,837,838] gf)=true:=C23 (Z0 rfl)
 have f2:J6 832 (C1 [831,832,834,837,838] gf)=true:=C23 (Z0 rfl)
 obtain ⟨R,hR⟩:∃R,A70 A s (a+1) ch.toNat th ([],List.replicate A.States.length false)=R:=⟨_,rfl⟩
 rw [hR]
 obtain ⟨Z,hZ⟩:∃Z,Z=oZ [831,832,834,837,838] ob:=⟨_,rfl⟩
 rw [←hZ] at z1 z2 z3 z4 z5 ⊢
 refine k2 (F5 (by kernel_rfl) (by kernel_rfl) (F9 J J (B5 (B2 J) J J (B5 (A7 J) J J (B5 (C6 J J J) J J (F9 J J (B5 (B2 J) J J (B5 (A7 J) J J (B5 (C6 J J J) J J (B5 (y8 J J (by omega) hv) J J (B5 (J8 J J) J J (R1 ?_))))))))))));refine k1 (k2 (A2 (A3 J J (A5 (B2 J) J (A5 (A7 J) J (G3 J J J J (E4 J J J (A5 (B2 J) J (A5 (A7 J) J (H7 (C4 TySz.out J J J J J J) (A4 ?_)))))))))));refine k1 (k2 (A2 (A3 J J (A5 (B2 J) J (A5 (A7 J) J (G3 J J J J (A6 J J (A4 ?_))))))));refine k1 (k2 (D9 (Sees.freezeG (k:=831) (α:=AL.Thread) (ec:=2) (c:=Y5) (xs:=th) (e:=186) J J) ?_))
 refine D9 (J36 (gf':=C1 [831,832,834,837,838] gf) (l:=[(0,.s x2),(2,.s (W4 ch)),(3,D5 AL.Thread 2 Y5 th)]) (ob':=[(830,macG A s (a+1) (.p (.list AL.Thread 2 Y5 th)) (.mut 832)),(832,snO sn)]++Z) ⟨le1 rfl,le1 rfl,le1 rfl,trivial⟩ (D3 hH) (by repeat (first | exact A8 | refine tail_drop rfl ?_ | refine A9 rfl ?_ | refine F2 _ rfl ?_ | refine X1 rfl ?_)) (C9 (L:=[(830,_),(832,_)]) ⟨rfl,rfl,trivial⟩ (by repeat (first | exact B8 | refine C0 rfl ?_ | refine D4 (H3 z2).2.1 ?_ | refine D4 (H3 z4).2.1 ?_ | refine D4 (H3 z5).2.1 ?_ | refine C01 (by first | exact z1 | exact z2 | exact z3 | exact z4 | exact z5) ?_ | refine p6 (by first | exact z1 | exact z2 | exact z3 | exact z4 | exact z5) ?_)))) ?_
 refine D9 (Sees.forget 832) ?_
 refine D9 (J36 (gf':=C1 [831,832,834,837,838] gf) (l:=[(0,.s x2),(2,.s (W4 ch)),(3,D5 AL.Thread 2 Y5 th)]) (ob':=[(830,macG A s (a+1) (.p (.list AL.Thread 2 Y5 th)) .any)]++Z) ⟨le1 rfl,le1 rfl,le1 rfl,trivial⟩ (D3 hH) (by repeat (first | exact A8 | refine tail_drop rfl ?_ | refine A9 rfl ?_ | refine F2 _ rfl ?_ | refine X1 rfl ?_)) (C9 (L:=[(830,_)]) ⟨rfl,trivial⟩ (by repeat (first | exact B8 | refine C0 rfl ?_ | refine D4 (H3 z2).2.1 ?_ | refine D4 (H3 z4).2.1 ?_ | refine D4 (H3 z5).2.1 ?_ | refine C01 (by first | exact z1 | exact z2 | exact z3 | exact z4 | exact z5) ?_ | refine p6 (by first | exact z1 | exact z2 | exact z3 | exact z4 | exact z5) ?_)))) ?_
 refine N6 [14,11,8] [[],[8],[11],[11,8],[14,11,8]] [(8,([832],[])),(11,([],[])),(14,([],[]))] [(0,[]),(1,[]),(2,[]),(3,[]),(4,[]),(5,[]),(6,[]),(7,[]),(8,[]),(9,[]),(10,[]),(11,[]),(11,[8]),(12,[11,8]),(13,[11,8]),(14,[11,8])] [(0,[8]),(1,[8]),(1,[11]),(1,[11,8]),(7,[11]),(8,[11]),(9,[8]),(10,[8])] (by kernel_rfl) (by kernel_rfl) (E2 J J (by kernel_rfl) J J (C8 J J) (E2 J J (by kernel_rfl) J J (C8 J J) (E2 J J (by kernel_rfl) J J (C8 J J) (E2 J J (by kernel_rfl) J J (B2 J) (E2 J J (by kernel_rfl) J J (A7 J) (E2 J J (by kernel_rfl) J J (A7 J) (E2 J J (by kernel_rfl) J J (C6 J J J) (E2 J J (by kernel_rfl) J J (r5 J (.pure _ _ _ _)) ?_))))))));refine U9 rfl rfl (by kernel_rfl) rfl rfl (D90 (fun frc hU hk=>A30 832 Bool I28 false (Q5 hU rfl) (Q5 hU rfl) (by (first | omega | decide)) (by (first | omega | decide)) (fun _=>by first | exact ⟨⟨rfl,rfl⟩,trivial⟩ | exact ⟨I5 _ _ _,trivial⟩ | exact ⟨I5 _ _ _,⟨rfl,rfl⟩,I5 _ _ _,trivial⟩) (by rw [hk];(repeat (first | exact z2 | refine H48 ?_ | refine M9 rfl rfl ?_))))) rfl ?_;refine E2 J J (by kernel_rfl) J J (B2 J) (E2 J J (by kernel_rfl) J J (A7 J) (U9 J J (by kernel_rfl) J J (A34 (fun frc hU=>C4 TySz.out (Q5 hU J) J (Q5 hU J) J J J)) J (w_again J J (by kernel_rfl) J J (A34 (fun frc hU=>C4 TySz.out (Q5 hU J) J (Q5 hU J) J J J)) J (E2 J J (by kernel_rfl) J J (B2 J) (E2 J J (by kernel_rfl) J J (A7 J) (U9 J J (by kernel_rfl) J J (A34 (fun frc hU=>C4 TySz.out (Q5 hU J) J (Q5 hU J) J J J)) J ?_))))));refine D05 (ks:=[831,832,834,837,838]) rfl (by kernel_rfl) rfl ?_ ?_
 ·refine M2 J J (by kernel_rfl) J J (C8 J J) (M2 J J (by kernel_rfl) J J (C8 J J) (M2 J J (by kernel_rfl) J J (C8 J J) (M2 J J (by kernel_rfl) J J (C8 J J) (M2 J J (by kernel_rfl) J J (r5 J (.pure _ _ _ _)) ?_))));refine x_eff rfl rfl (by kernel_rfl) rfl rfl (D90 (fun frc hU hk=>A30 832 Bool I28 false (Q5 hU rfl) (Q5 hU rfl) (by (first | omega | decide)) (by (first | omega | decide)) (fun _=>by first | exact ⟨⟨rfl,rfl⟩,trivial⟩ | exact ⟨I5 _ _ _,trivial⟩ | exact ⟨I5 _ _ _,⟨rfl,rfl⟩,I5 _ _ _,trivial⟩) (by rw [hk];(repeat (first | exact z2 | refine H48 ?_ | refine M9 rfl rfl ?_))))) rfl (I98 (by repeat (first | exact trivial | refine ⟨.inr rfl,?_⟩ | refine ⟨.inl rfl,?_⟩ | exact E37 (by repeat (first | exact B8 | refine C0 rfl ?_))))) ?_;refine M2 J J (by kernel_rfl) J J (B2 J) (M2 J J (by kernel_rfl) J J (A7 J) ?_);exact B41
 refine k1 (k2 ?_);refine D9 (J36 (gf':=C1 [831,832,834,837,838] gf) (l:=[(0,.s x2),(2,.s (W4 ch)),(3,D5 AL.Thread 2 Y5 th)]) (ob':=[(830,macG A s (a+1) (.p (.v (.slice none 0 0))) (.mut 832)),(832,snO (List.replicate A.States.length false))]++Z) ⟨le1 rfl,le1 rfl,le1 rfl,trivial⟩ (D3 hH) (by repeat (first | exact A8 | refine tail_drop rfl ?_ | refine A9 rfl ?_ | refine F2 _ rfl ?_ | refine X1 rfl ?_)) (C9 (L:=[(830,_),(832,_)]) ⟨rfl,rfl,trivial⟩ (by repeat (first | exact B8 | refine C0 rfl ?_ | refine D4 (H3 z2).2.1 ?_ | refine D4 (H3 z4).2.1 ?_ | refine D4 (H3 z5).2.1 ?_ | refine C01 (by first | exact z1 | exact z2 | exact z3 | exact z4 | exact z5) ?_ | refine p6 (by first | exact z1 | exact z2 | exact z3 | exact z4 | exact z5) ?_)))) ?_
 refine D9 (J41 831 AL.Thread 2 Y5 186 (kb:=830) (o:=4) J J (and_tt (B50 J (B50 J (B50 J f1))) (M9 J J (M9 J J z1)))) ?_
 refine A2 (A3 J J (F3 J J (A3 J J (A4 ?_))));refine k1 (k3 ?_);refine D6 (X:=Nat × Mach) (fun x=>([(0,.s x2),(2,.s (W4 ch)),(40,D5 AL.Thread 2 Y5 th),(41,C3 th.length),(42,C3 x.1)]++C1 [831,832,834,837,838] gf,[(830,A11 A s (a+1)),(831,thO x.2.1),(832,snO x.2.2)]++Z)) (fun x=>x.1≤th.length∧A70 A s (a+1) ch.toNat (th.drop x.1) x.2=R∧MG A x.2) (fun x=>th.length - x.1) (0,([],List.replicate A.States.length false)) ⟨Nat.zero_le _,hR,MG.first A⟩ ?_ ?_
 ·exact J36 ⟨le1 rfl,le1 rfl,le1 rfl,le1 rfl,le1 rfl,trivial⟩ (D3 hH) (by repeat (first | exact A8 | refine tail_drop rfl ?_ | refine A9 rfl ?_ | refine F2 _ rfl ?_ | refine X1 rfl ?_)) (C9 (L:=[(830,_),(831,_),(832,_)]) ⟨rfl,rfl,rfl,trivial⟩ (by repeat (first | exact B8 | refine C0 rfl ?_ | refine D4 (H3 z2).2.1 ?_ | refine D4 (H3 z4).2.1 ?_ | refine D4 (H3 z5).2.1 ?_ | refine C01 (by first | exact z1 | exact z2 | exact z3 | exact z4 | exact z5) ?_ | refine p6 (by first | exact z1 | exact z2 | exact z3 | exact z4 | exact z5) ?_)))
 rintro ⟨i,m⟩ ⟨hi,hRi,hmg⟩
 dsimp only at hi hRi hmg ⊢
 refine k2 (A2 (G7 J J J (A4 ?_)));refine k1 (k2 ?_);refine B0 rfl (fun ht=>?_) (fun ht=>?_)
 rotate_left
 ·have hie:i=th.length:=by have:=A1 ht;omega
  rw [hie,List.drop_length] at hRi
  have hRm:m=R:=hRi
  rw [hRm]
  refine k6 (k7 (k7 (k8 J ?_)))
  exact P6 (A31 rfl) (by repeat (first | exact A8 | refine tail_drop rfl ?_ | refine A9 rfl ?_ | refine F2 _ rfl ?_ | refine X1 rfl ?_)) (C9 (L:=[(830,_),(831,_),(832,_)]) ⟨rfl,rfl,rfl,trivial⟩ (by repeat (first | exact B8 | refine C0 rfl ?_ | refine D4 (H3 z2).2.1 ?_ | refine D4 (H3 z4).2.1 ?_ | refine D4 (H3 z5).2.1 ?_ | refine C01 (by first | exact z1 | exact z2 | exact z3 | exact z4 | exact z5) ?_ | refine p6 (by first | exact z1 | exact z2 | exact z3 | exact z4 | exact z5) ?_))) ⟨rfl,rfl⟩
 have hlt:i < th.length:=by have:=A0 ht;omega
 obtain ⟨t,htd⟩:∃t,t=th[i]:=⟨_,rfl⟩
 have hvt:th[i]?=some t:=by rw [htd];simp [hlt]
 rw [J71 hlt,←htd,A70] at hRi
 obtain ⟨hs1,hs2⟩:=hst t (J69 hvt)
 obtain ⟨q,hqd⟩:∃q,q=P2 A t.state:=⟨_,rfl⟩
 have hvs:A.States[t.state.toNat]?=some q:=by rw [hqd];exact C86 ⟨hs1,hs2⟩
 have hqg:=o6 (A89 hA ⟨hs1,hs2⟩)
 rw [←hqd] at hRi hqg
 refine k5 (k1 (k2 (k3 (k2 (A2 (A5 (B3 J (.pure _ _ _ _) J (by omega) hvt) J (A5 (E3 J J) J (D2 (C42 837 (H3 (M9 J J (M9 J J (M9 J J z4)))).2.1 (by decide)) J (H7 (C4 TySz.out J J J J J J) (A4 ?_))))))))));refine k1 (k2 ?_);refine D9 (J36 (gf':=C1 [831,832,834,837,838] gf) (l:=[(0,.s x2),(2,.s (W4 ch)),(40,D5 AL.Thread 2 Y5 th),(41,C3 th.length),(42,C3 i),(5,.s (.one (.ref 837 0)))]) (ob':=[(830,A11 A s (a+1)),(831,thO m.1),(832,snO m.2),(837,.box [.p (.v (.int .i64 t.state)),.p (.v (.int .i64 t.from_))])]++Z) ⟨le1 rfl,le1 rfl,le1 rfl,le1 rfl,le1 rfl,le1 rfl,trivial⟩ (D3 hH) (by repeat (first | exact A8 | refine tail_drop rfl ?_ | refine A9 rfl ?_ | refine F2 _ rfl ?_ | refine X1 rfl ?_)) (C9 (L:=[(830,_),(831,_),(832,_),(837,_)]) ⟨rfl,rfl,rfl,rfl,trivial⟩ (by repeat (first | exact B8 | refine C0 rfl ?_ | refine D4 (H3 z2).2.1 ?_ | refine D4 (H3 z4).2.1 ?_ | refine D4 (H3 z5).2.1 ?_ | refine C01 (by first | exact z1 | exact z2 | exact z3 | exact z4 | exact z5) ?_ | refine p6 (by first | exact z1 | exact z2 | exact z3 | exact z4 | exact z5) ?_)))) ?_
 refine N6 [10,9] [[],[9],[10,9]] [(9,([838],[])),(10,([],[]))] [(0,[]),(1,[]),(2,[]),(3,[]),(4,[]),(5,[]),(6,[]),(7,[]),(8,[]),(9,[]),(10,[9])] [(0,[9]),(1,[9]),(2,[9]),(3,[9]),(4,[9]),(5,[9]),(6,[9]),(7,[9]),(8,[9])] (by kernel_rfl) (by kernel_rfl) (E2 J J (by kernel_rfl) J J (C8 J J) (E2 J J (by kernel_rfl) J J (B2 J) (E2 J J (by kernel_rfl) J J (A7 J) (E2 J J (by kernel_rfl) J J (A7 J) (E2 J J (by kernel_rfl) J J (C6 J J J) (E2 J J (by kernel_rfl) J J (A7 J) (E2 J J (by kernel_rfl) J J (C6 J J J) (E2 J J (by kernel_rfl) J J (B3 J (.pure _ _ _ _) J (by omega) hvs) (E2 J J (by kernel_rfl) J J (E3 J J) ?_)))))))));refine U9 rfl rfl (by kernel_rfl) rfl rfl (r_alloc (by repeat (first | exact z5 | refine H48 ?_ | refine M9 rfl rfl ?_))) rfl ?_;refine U9 J J (by kernel_rfl) J J (A34 (fun frc hU=>C4 TySz.out (Q5 hU J) J (Q5 hU J) J J J)) J ?_;refine D05 (ks:=[831,832,834,837,838]) rfl (by kernel_rfl) rfl ?_ ?_
 ·refine M2 J J (by kernel_rfl) J J (C8 J J) (M2 J J (by kernel_rfl) J J (B2 J) (M2 J J (by kernel_rfl) J J (A7 J) (M2 J J (by kernel_rfl) J J (A7 J) (M2 J J (by kernel_rfl) J J (C6 J J J) (M2 J J (by kernel_rfl) J J (A7 J) (M2 J J (by kernel_rfl) J J (C6 J J J) (M2 J J (by kernel_rfl) J J (B3 J (.pure _ _ _ _) J (by omega) hvs) (M2 J J (by kernel_rfl) J J (E3 J J) ?_))))))));exact B41
 refine k1 (k2 ?_);refine D9 (J36 (gf':=C1 [831,832,834,837,838] gf) (l:=[(0,.s x2),(2,.s (W4 ch)),(40,D5 AL.Thread 2 Y5 th),(41,C3 th.length),(42,C3 i),(5,.s (.one (.ref 837 0))),(6,.s (.one (.ref 838 0)))]) (ob':=[(830,A11 A s (a+1)),(831,thO m.1),(832,snO m.2),(837,.box [.p (.v (.int .i64 t.state)),.p (.v (.int .i64 t.from_))]),(838,.box ((cellsOf A20 q 0 7).map .p))]++Z) ⟨le1 rfl,le1 rfl,le1 rfl,le1 rfl,le1 rfl,le1 rfl,le1 rfl,trivial⟩ (D3 hH) (by repeat (first | exact A8 | refine tail_drop rfl ?_ | refine A9 rfl ?_ | refine F2 _ rfl ?_ | refine X1 rfl ?_)) (C9 (L:=[(830,_),(831,_),(832,_),(837,_),(838,_)]) ⟨rfl,rfl,rfl,rfl,rfl,trivial⟩ (by repeat (first | exact B8 | refine C0 rfl ?_ | refine D4 (H3 z2).2.1 ?_ | refine D4 (H3 z4).2.1 ?_ | refine D4 (H3 z5).2.1 ?_ | refine C01 (by first | exact z1 | exact z2 | exact z3 | exact z4 | exact z5) ?_ | refine p6 (by first | exact z1 | exact z2 | exact z3 | exact z4 | exact z5) ?_)))) ?_
 by_cases hK:q.Kind=0
 ·have hd:ch.toNat / 64=0∨ch.toNat / 64=1∨ch.toNat / 64=2∨ch.toNat / 64=3:=by have:=ch.toNat_lt;omega
  have hdK:=decide_eq_true hK
  rcases hd with hd | hd | hd | hd
  all_goals
   have hq4:=quo64 ch.toNat_lt hd
   have hm0:0≤(ch.toNat:Int).tmod 64:=Int.tmod_nonneg _ (by omega)
   refine A2 (A5 (A7 J) J (G3 J J J J (A5 (F4 J J) J (A3 J J (G6 J J J hdK (A3 J J (G6 J J J hdK (A5 (D84 J J (by decide)) J (G6 J J J hdK (A5 (A7 J) J (G6 J J J hdK (A5 (l0 J J (hq4) (by decide)) J (G6 J J J hdK (G3 J J J J (G6 J J J hdK (A3 J J (G6 J J J hdK (A5 (D31 J J (by decide)) J (G6 J J J hdK (A5 (H92 J J (by (exact hm0))) J ?_))))))))))))))))))));refine G6 J J J hdK (A5 (C92 J J J (fun _=>rfl)) J (G6 J J J hdK (A5 (F4 J J) J (A5 (O8 J (hdK) J) J (A4 ?_)))));refine k1 ?_;refine B0 rfl (fun ht=>?_) (fun ht=>?_)
   ·have hB:A22 q.Set ch.toNat=1:=by
     have h1:=A0 ht
     rw [H01,rem64] at h1
     unfold A22
     rw [hd]
     exact h1
    rw [if_pos ⟨hK,hB⟩] at hRi
    obtain ⟨M,hM⟩:∃M,C84 A s (a+1) ⟨q.Next,t.from_⟩ m=M:=⟨_,rfl⟩
    rw [hM] at hRi
    have hMg:MG A M:=by rw [←hM];exact D27 s hA (by dsimp only;omega) hmg
    skip
    refine A2 (A3 J J (A5 (A7 J) J (G3 J J J J (A5 (A7 J) J (G3 J J J J (A5 (I8 J) J (H4 (F28 A s hA (a+1) q.Next t.from_ m M hmg (by omega) hM J J J (H3 (M9 J J (M9 J J (M9 J J (M9 J J (M9 J J z3)))))).2.1) J J J ?_)))))));rintro _ _ ⟨rfl,rfl⟩;refine A4 ?_;refine k4 (k1 (A2 (E4 J J J (A3 J J (A4 ?_)))));refine k1 ?_;refine ⟨(i+1,M),⟨by omega,hRi,hMg⟩,by dsimp only;omega,?_⟩
    exact J36 ⟨le1 rfl,le1 rfl,le1 rfl,le1 rfl,le1 rfl,trivial⟩ (D3 hH) (by repeat (first | exact A8 | refine tail_drop rfl ?_ | refine A9 rfl ?_ | refine F2 _ rfl ?_ | refine X1 rfl ?_)) (C9 (L:=[(830,_),(831,_),(832,_)]) ⟨rfl,rfl,rfl,trivial⟩ (by repeat (first | exact B8 | refine C0 rfl ?_ | refine D4 (H3 z2).2.1 ?_ | refine D4 (H3 z4).2.1 ?_ | refine D4 (H3 z5).2.1 ?_ | refine C01 (by first | exact z1 | exact z2 | exact z3 | exact z4 | exact z5) ?_ | refine p6 (by first | exact z1 | exact z2 | exact z3 | exact z4 | exact z5) ?_)))
   ·have hB:¬A22 q.Set ch.toNat=1:=by
     have h1:=A1 ht
     rw [H01,rem64] at h1
     unfold A22
     rw [hd]
     exact h1
    rw [if_neg (fun h=>hB h.2)] at hRi
    refine k5 (k4 (k1 (A2 (E4 J J J (A3 J J (A4 ?_))))));refine k1 ?_;refine ⟨(i+1,m),⟨by omega,hRi,hmg⟩,by dsimp only;omega,?_⟩
    exact J36 ⟨le1 rfl,le1 rfl,le1 rfl,le1 rfl,le1 rfl,trivial⟩ (D3 hH) (by repeat (first | exact A8 | refine tail_drop rfl ?_ | refine A9 rfl ?_ | refine F2 _ rfl ?_ | refine X1 rfl ?_)) (C9 (L:=[(830,_),(831,_),(832,_)]) ⟨rfl,rfl,rfl,trivial⟩ (by repeat (first | exact B8 | refine C0 rfl ?_ | refine D4 (H3 z2).2.1 ?_ | refine D4 (H3 z4).2.1 ?_ | refine D4 (H3 z5).2.1 ?_ | refine C01 (by first | exact z1 | exact z2 | exact z3 | exact z4 | exact z5) ?_ | refine p6 (by first | exact z1 | exact z2 | exact z3 | exact z4 | exact z5) ?_)))
 have hdF:=decide_eq_false hK
 refine A2 (A5 (A7 J) J (G3 J J J J (A5 (F4 J J) J (A3 J J (I6 J J J (by rw [hdF];decide) J ?_)))));refine I6 J J J (by rw [hdF];decide) J ?_;refine I6 J J J (by rw [hdF];decide) J ?_;refine I6 J J J (by rw [hdF];decide) J ?_;refine I6 J J J (by rw [hdF];decide) J ?_;refine I6 J J J (by rw [hdF];decide) J ?_;refine I6 J J J (by rw [hdF];decide) J ?_;refine I6 J J J (by rw [hdF];decide) J ?_;refine I6 J J J (by rw [hdF];decide) J ?_;refine I6 J J J (by rw [hdF];decide) J ?_;refine A5 (W9 J (hdF) J) J (A4 ?_);refine k1 ?_;refine B0 rfl (fun ht=>?_) (fun ht=>?_)
 ·cases ht
 refine k5 (k4 (k1 (A2 (E4 J J J (A3 J J (A4 ?_))))));refine k1 ?_
 rw [if_neg (fun h=>hK h.1)] at hRi
 refine ⟨(i+1,m),⟨by omega,hRi,hmg⟩,by dsimp only;omega,?_⟩
 exact J36 ⟨le1 rfl,le1 rfl,le1 rfl,le1 rfl,le1 rfl,trivial⟩ (D3 hH) (by repeat (first | exact A8 | refine tail_drop rfl ?_ | refine A9 rfl ?_ | refine F2 _ rfl ?_ | refine X1 rfl ?_)) (C9 (L:=[(830,_),(831,_),(832,_)]) ⟨rfl,rfl,rfl,trivial⟩ (by repeat (first | exact B8 | refine C0 rfl ?_ | refine D4 (H3 z2).2.1 ?_ | refine D4 (H3 z4).2.1 ?_ | refine D4 (H3 z5).2.1 ?_ | refine C01 (by first | exact z1 | exact z2 | exact z3 | exact z4 | exact z5) ?_ | refine p6 (by first | exact z1 | exact z2 | exact z3 | exact z4 | exact z5) ?_)))
set_option maxHeartbeats 1000000
theorem G70 {A:AL.Auto} {s:Str} {f a:Nat} {m m1 m2:Mach} {b b':Int × Int} {fd fd':Bool} {i:Int} (h1:(if fd=true then m else C84 A s a ⟨A.Start,a⟩ m)=m1) (hi:P3 A m1.1=i) (hb:(if 0≤i then (i,(a:Int)) else b)=b') (hf:(if 0≤i then true else fd)=fd') (h2:(if 0≤i then (A23 i m1.1,m1.2) else m1)=m2) :
  A71 A s (f+1) a m b fd=if a=s.length∨(fd'=true∧m2.1=[]) then (b',fd') else A71 A s f (a+1) (C85 A s a m2) b' fd':=by
 subst h1 hi hb hf h2
 rfl
theorem J20 (A:AL.Auto) (s:Str) (hA:AG A) (hs:s.length≤16777216):FnOk Tryz.prog 79 [A21 A,M1 s,G1 0] (fun rs=>rs=[.agg [.v (.int .i64 (B66 A s 0).1.1),.v (.int .i64 (B66 A s 0).1.2)],J2 (B66 A s 0).2]):=by
 obtain ⟨R,hR⟩:∃R,B66 A s 0=R:=⟨_,rfl⟩
 rw [hR]
 have hR0:A71 A s (s.length+1 - 0) 0 ([],List.replicate A.States.length false) (0,0) false=R:=hR
 obtain ⟨hn1,hn2⟩:=hA.len
 refine FnOk.intro Tryz.func79 (by decide) J J J J ?_
 refine k2 (A2 (A5 (m9 J J J) J (D2 (I9 6 J) J (A6 J J (A4 ?_)))));refine k1 (k2 (A2 (A5 (E3 J J) J (A3 J J (A3 J J (A77 (H59 A s hA) J J J J ?_))))));rintro _ _ ⟨rfl,rfl⟩;refine ⟨rfl,?_⟩;refine A6 J J (A4 ?_);refine k1 (D9 (J41 831 AL.Thread 2 Y5 186 (kb:=830) (o:=4) J J J) ?_)
 refine k2 (A2 (D2 (I9 9 J) J (A4 ?_)));refine k1 (k2 (A2 (A6 J J (A4 ?_))));refine k1 (k3 (D6 (X:=Nat × Mach × (Int × Int) × Bool) (fun x=>([(1,V5 s),(3,.s (.one (.eref Unit 2 (E44 A) () 0))),(6,.s (.one (.ref 6 0))),(8,.s (.one (.ref 830 0))),(9,.s (.one (.ref 9 0))),(10,R0 x.2.2.2)],[(830,A11 A s x.1),(831,thO x.2.1.1),(832,snO x.2.1.2),(6,.box [.p (.v (.int .i64 0)),.p (.v (.int .i64 0))]),(9,.box [.p (.v (.int .i64 x.2.2.1.1)),.p (.v (.int .i64 x.2.2.1.2))])])) (fun x=>x.1≤s.length∧MG A x.2.1∧A71 A s (s.length+1 - x.1) x.1 x.2.1 x.2.2.1 x.2.2.2=R) (fun x=>s.length - x.1) (0,([],List.replicate A.States.length false),(0,0),false) ⟨Nat.zero_le _,MG.first A,hR0⟩ (Sees.of ⟨le1 rfl,le1 rfl,le1 rfl,le1 rfl,le1 rfl,le1 rfl,trivial⟩ ⟨rfl,rfl,rfl,rfl,rfl,trivial⟩) ?_))
 rintro ⟨a,m,⟨b1,b2⟩,fd⟩ ⟨ha,hm,hRa⟩
 dsimp only at ha hm hRa ⊢
 obtain ⟨m1,hm1⟩:∃m1,(if fd=true then m else C84 A s a ⟨A.Start,a⟩ m)=m1:=⟨_,rfl⟩
 obtain ⟨i,hi⟩:∃i,P3 A m1.1=i:=⟨_,rfl⟩
 obtain ⟨b',hb'⟩:∃b',(if 0≤i then (i,(a:Int)) else (b1,b2))=b':=⟨_,rfl⟩
 obtain ⟨fd',hfd'⟩:∃fd',(if 0≤i then true else fd)=fd':=⟨_,rfl⟩
 obtain ⟨m2,hm2⟩:∃m2,(if 0≤i then (A23 i m1.1,m1.2) else m1)=m2:=⟨_,rfl⟩
 rw [show s.length+1 - a=(s.length - a)+1 by omega,G70 hm1 hi hb' hfd' hm2] at hRa
 have hg1:MG A m1:=by
  rw [←hm1]
  split
  ·exact hm
  ·exact D27 s hA hA.start hm
 have hg2:MG A m2:=by
  rw [←hm2]
  split
  ·exact hg1.keep i
  ·exact hg1
 have hc1:=hg1.cnt
 have hc2:=hg2.cnt
 refine k3 (k2 (k2 (A2 (A3 J J (A5 (U0 J) J (A4 ?_))))));refine k1 ?_;refine B72 [(1,V5 s),(3,.s (.one (.eref Unit 2 (E44 A) () 0))),(6,.s (.one (.ref 6 0))),(8,.s (.one (.ref 830 0))),(9,.s (.one (.ref 9 0))),(10,R0 fd)] [(830,A11 A s a),(831,thO m1.1),(832,snO m1.2),(6,.box [.p (.v (.int .i64 0)),.p (.v (.int .i64 0))]),(9,.box [.p (.v (.int .i64 b1)),.p (.v (.int .i64 b2))])] ?_ ?_
 ·cases fd with
  | true =>
   rw [if_pos rfl] at hm1
   subst hm1
   skip
   refine B0 rfl (fun ht=>?_) (fun ht=>?_)
   ·cases ht
   refine k5 (k1 ?_)
   exact Sees.of ⟨le1 rfl,le1 rfl,le1 rfl,le1 rfl,le1 rfl,le1 rfl,trivial⟩ ⟨rfl,rfl,rfl,rfl,rfl,trivial⟩
  | false =>
   rw [if_neg (by decide)] at hm1
   skip
   refine B0 rfl (fun ht=>?_) (fun ht=>?_)
   rotate_left
   ·cases ht
   skip
   refine E88 8 (by kernel_rfl) (by kernel_rfl) J (F9 J J (B5 (C5 J) J J (B5 (B1 J J) J J (F9 J J (B5 (B2 J) J J (B5 (A7 J) J J (B5 (C6 J J J) J J (B5 (I8 J) J J (R1 ?_)))))))));refine G21 (F28 A s hA a A.Start a m m1 hm hA.start hm1 J J J J) J J J ?_;rintro _ _ ⟨rfl,rfl⟩;refine ⟨_,rfl,?_⟩;refine R1 ?_;refine k1 ?_
   exact Sees.of ⟨le1 rfl,le1 rfl,le1 rfl,le1 rfl,le1 rfl,le1 rfl,trivial⟩ ⟨rfl,rfl,rfl,rfl,rfl,trivial⟩
 refine k2 (k2 (A2 (A3 J J (H4 (E45 A s a m1.1 m1.2 hg1.st (by omega) J J J J) J J J ?_))));rintro _ _ ⟨rfl,rfl⟩;refine A6 J J (A4 ?_);refine k1 (k2 ?_)
 rw [hi]
 refine A2 (A3 J J (A5 (U8 J J) J (A4 ?_)));refine k1 ?_;refine B72 [(1,V5 s),(3,.s (.one (.eref Unit 2 (E44 A) () 0))),(6,.s (.one (.ref 6 0))),(8,.s (.one (.ref 830 0))),(9,.s (.one (.ref 9 0))),(10,R0 fd')] [(830,A11 A s a),(831,thO m2.1),(832,snO m2.2),(6,.box [.p (.v (.int .i64 0)),.p (.v (.int .i64 0))]),(9,.box [.p (.v (.int .i64 b'.1)),.p (.v (.int .i64 b'.2))])] ?_ ?_
 ·skip
  refine B0 rfl (fun ht=>?_) (fun ht=>?_)
  ·have h0:=A0 ht
   rw [if_pos h0] at hb' hfd' hm2
   subst hb' hfd' hm2
   refine k2 (A2 (A3 J J (A3 J J (A5 (B2 J) J (A5 (A7 J) J (G3 J J J J (A5 (I8 J) J (H7 (C4 TySz.out J J J J J J) (A6 J J (A4 ?_))))))))));refine k1 (A2 (A3 J J (A3 J J (H4 (H60 A s a i m1.1 m1.2 (by omega) J J J J) J J J ?_))));rintro _ _ ⟨rfl,rfl⟩;refine A4 ?_;refine k1 ?_
   exact Sees.of ⟨le1 rfl,le1 rfl,le1 rfl,le1 rfl,le1 rfl,le1 rfl,trivial⟩ ⟨rfl,rfl,rfl,rfl,rfl,trivial⟩
  ·have h0:=A1 ht
   rw [if_neg h0] at hb' hfd' hm2
   subst hb' hfd' hm2
   refine k5 (k1 ?_)
   exact Sees.of ⟨le1 rfl,le1 rfl,le1 rfl,le1 rfl,le1 rfl,le1 rfl,trivial⟩ ⟨rfl,rfl,rfl,rfl,rfl,trivial⟩
 refine k2 (k2 ?_)
 by_cases hal:a=s.length
 ·have hd:decide ((a:Int)=(s.length:Int))=true:=decide_eq_true (by omega)
  rw [if_pos (.inl hal)] at hRa
  refine A2 (A3 J J (A5 (B2 J) J (A5 (A7 J) J (G3 J J J J (A3 J J (A5 (N2 J) J (A5 (F4 J J) J (A3 J J (I6 J J J (by rw [hd];decide) J ?_)))))))));refine I6 J J J (by rw [hd];decide) J ?_;refine B82 J J J J (B82 J J J J (B82 J J J J (B82 J J J J (B82 J J J J (B82 J J J J (I6 J J J (by rw [hd];decide) J ?_))))));refine A5 (O8 J (hd) J) J (A4 ?_);refine k1 ?_;refine B0 rfl (fun ht=>?_) (fun ht=>?_)
  rotate_left
  ·cases ht
  refine k2 (A2 (A5 (U1 J J J) J (A3 J J (H7 (C4 TySz.out J J J J J J) (A6 J J (A4 ?_))))));refine k1 (k10 (k11 (k12 (k11 (k12 ?_)))))
  exact B7 (rs:=[.agg [.v (.int .i64 b'.1),.v (.int .i64 b'.2)],J2 fd']) (H94 rfl rfl rfl rfl rfl rfl rfl) (by rw [←hRa])
 have hd:decide ((a:Int)=(s.length:Int))=false:=decide_eq_false (by omega)
 cases fd' with
 | true =>
  refine A2 (A3 J J (A5 (B2 J) J (A5 (A7 J) J (G3 J J J J (A3 J J (A5 (N2 J) J (A5 (F4 J J) J (A3 J J (G6 J J J hd (A3 J J (G6 J J J hd (A3 J J (G6 J J J J (A3 J J (G6 J J J J (A5 (B2 J) J (G6 J J J J (A5 (A7 J) J (G6 J J J J (G3 J J J J (G6 J J J J (A5 (T3 J J) J (G6 J J J J ?_)))))))))))))))))))))));refine A5 (F4 J J) J (G6 J J J hd (A5 (O8 J (rfl) J) J (A5 (W9 J (hd) J) J (A4 ?_))));refine k1 ?_;refine B0 rfl (fun ht=>?_) (fun ht=>?_)
  ·have hnl:m2.1=[]:=List.length_eq_zero_iff.1 (by have:=A0 ht;omega)
   rw [if_pos (.inr ⟨rfl,hnl⟩)] at hRa
   refine k2 (A2 (A5 (U1 J J J) J (A3 J J (H7 (C4 TySz.out J J J J J J) (A6 J J (A4 ?_))))));refine k1 (k10 (k11 (k12 (k11 (k12 ?_)))))
   exact B7 (rs:=[.agg [.v (.int .i64 b'.1),.v (.int .i64 b'.2)],J2 true]) (H94 rfl rfl rfl rfl rfl rfl rfl) (by rw [←hRa])
  ·have hnl:m2.1≠[]:=fun e=>by have:=A1 ht;rw [e] at this;exact this rfl
   rw [if_neg (fun h=>h.elim hal fun h=>hnl h.2)] at hRa
   refine k5 (k1 (A2 (A3 J J (H4 (E46 A s hA a (by omega) hs m2 hg2 J J J) J J J ?_))));rintro _ _ ⟨rfl,rfl⟩;refine A4 ?_;refine k4 (k1 ?_)
   exact ⟨(a+1,C85 A s a m2,b',true),⟨by dsimp only;omega,E79 s hA hg2,by dsimp only;rw [show s.length+1 - (a+1)=s.length - a by omega];exact hRa⟩,by dsimp only;omega,Sees.of ⟨le1 rfl,le1 rfl,le1 rfl,le1 rfl,le1 rfl,le1 rfl,trivial⟩ ⟨rfl,rfl,rfl,rfl,rfl,trivial⟩⟩
 | false =>
  rw [if_neg (fun h=>h.elim hal fun h=>by cases h.1)] at hRa
  refine A2 (A3 J J (A5 (B2 J) J (A5 (A7 J) J (G3 J J J J (A3 J J (A5 (N2 J) J (A5 (F4 J J) J (A3 J J (G6 J J J hd (A3 J J (G6 J J J hd (A3 J J (I6 J J J (by decide) J (I6 J J J (by decide) J (I6 J J J (by decide) J (I6 J J J (by decide) J (I6 J J J (by decide) J (I6 J J J (by decide) J (G6 J J J hd (A5 (W9 J (rfl) J) J (A5 (W9 J (hd) J) J (A4 ?_))))))))))))))))))))));refine k1 ?_;refine B0 rfl (fun ht=>?_) (fun ht=>?_)
  ·cases ht
  refine k5 (k1 (A2 (A3 J J (H4 (E46 A s hA a (by omega) hs m2 hg2 J J J) J J J ?_))));rintro _ _ ⟨rfl,rfl⟩;refine A4 ?_;refine k4 (k1 ?_)
  exact ⟨(a+1,C85 A s a m2,b',false),⟨by dsimp only;omega,E79 s hA hg2,by dsimp only;rw [show s.length+1 - (a+1)=s.length - a by omega];exact hRa⟩,by dsimp only;omega,Sees.of ⟨le1 rfl,le1 rfl,le1 rfl,le1 rfl,le1 rfl,le1 rfl,trivial⟩ ⟨rfl,rfl,rfl,rfl,rfl,trivial⟩⟩
theorem anyG_ok (A:AL.Auto) (s:Str) (hA:AG A) (hs:s.length≤16777216):FnOk Tryz.prog 46 [A21 A,M1 s] (fun rs=>rs=[J2 (B66 A s 0).2,G1 0]):=by
 refine FnOk.intro Tryz.func46 (by decide) J J J J ?_
 refine k2 (A2 (A5 (m9 J J J) J (A6 J J (A6 J J (A4 ?_)))));refine k1 (k2 (k2 (A2 (A5 (E3 J J) J (D8 (H58 A hA) J J J ?_)))));rintro _ rfl;refine A6 J J (A4 ?_);refine k1 (k2 (A2 (A3 J J (A5 (T9 J J) J (A4 ?_)))));refine k1 ?_;refine B0 rfl (fun ht=>?_) (fun ht=>?_)
 ·cases ht
 refine k5 (k1 (k2 (A2 (A5 (E3 J J) J (A3 J J (D8 (J20 A s hA hs) J J J ?_))))));rintro _ rfl;refine A3 J J (H5 J J J (H5 J J J (D2 (I9 7 J) J (H7 (C4 TySz.out J J J J J J) (A6 J J (A4 ?_))))));refine k1 (k2 (A2 (A3 J J (A6 J J (A6 J J (A4 ?_))))));refine k1 (k10 ?_)
 exact B7 (rs:=[J2 (B66 A s 0).2,G1 0]) (l9 rfl rfl rfl rfl rfl) rfl
set_option maxHeartbeats 1000000
abbrev x3 (A:AL.Auto) (s:Str):Bool:=(B66 A s 0).2
theorem C61 (A:AL.Auto) (hA:AG A) (a b:Str) (ha:K9 a=0) (hb:K9 b=0):FnOk Tryz.prog 27 [A21 A,M1 a,M1 b] (fun rs=>rs=[B91 (A54 (x3 A) a b),G1 0]):=by
 have lims:∀{s:Str},K9 s=0→s.length≤1048576∧(F8 s).length≤4096:=fun {s} h=>by
  unfold K9 at h
  split at h
  ·cases h
  ·omega
 obtain ⟨ha1,ha2⟩:=lims ha
 obtain ⟨hb1,hb2⟩:=lims hb
 have hs0:=F21 a (by omega)
 have hs1:=F21 b (by omega)
 rw [show Y4 a=(F8 a,0) by unfold Y4;rw [if_neg (by omega)]] at hs0
 rw [show Y4 b=(F8 b,0) by unfold Y4;rw [if_neg (by omega)]] at hs1
 obtain ⟨x,hx⟩:∃x,x=F8 a:=⟨_,rfl⟩
 obtain ⟨y,hy⟩:∃y,y=F8 b:=⟨_,rfl⟩
 have hxl:∀s∈x,s.length≤1048576:=fun s hs=>by rw [hx] at hs;have:=C73 _ _ hs;omega
 have hyl:∀s∈y,s.length≤1048576:=fun s hs=>by rw [hy] at hs;have:=C73 _ _ hs;omega
 have hmo:A54 (x3 A) a b=P9 (x3 A) x y (A53 x y):=by unfold A54;rw [hx,hy]
 rw [hmo]
 rw [←hx] at ha2 hs0
 rw [←hy] at hb2 hs1
 have hid:=F89 [x,y] (by simp) (by simp only [J92,List.flatten_nil,J63,J68];omega)
 have hwk:=H53 (L5 (G9 [x,y]) x) (L5 (G9 [x,y]) y) (by rw [A24];exact ha2) (by rw [A24];exact hb2)
 obtain ⟨L,hL⟩:∃L,L=A53 x y:=⟨_,rfl⟩
 have hsc:B60 (L5 (G9 [x,y]) x) (L5 (G9 [x,y]) y)=L:=hL.symm
 rw [hsc] at hwk
 obtain ⟨hLl,hLb⟩:=F52 x y
 rw [←hL] at hLl hLb ⊢
 have hv0:([x,y].map (L5 (G9 [x,y])))[(0:Int).toNat]?=some (L5 (G9 [x,y]) x):=rfl
 have hv1:([x,y].map (L5 (G9 [x,y])))[(1:Int).toNat]?=some (L5 (G9 [x,y]) y):=rfl
 refine FnOk.intro Tryz.func27 (by decide) J J J J ?_
 refine k2 (A2 (A5 (m9 J J J) J (A6 J J (A6 J J (A4 ?_)))));refine k1 (k2 (A2 (A3 J J (D8 (hs0) J J J ?_))));rintro _ rfl;refine A3 J J (H5 J J J (H5 J J J (A6 J J (A6 J J (A4 ?_)))));refine k1 (k2 (k2 (A2 (A3 J J (A5 (T9 J J) J (A4 ?_))))));refine k1 ?_;refine B0 rfl (fun ht=>?_) (fun ht=>?_)
 ·cases ht
 refine k5 (k1 (k2 (A2 (A3 J J (D8 (hs1) J J J ?_)))));rintro _ rfl;refine A3 J J (H5 J J J (H5 J J J (A6 J J (A6 J J (A4 ?_)))));refine k1 (k2 (k2 (A2 (A3 J J (A5 (T9 J J) J (A4 ?_))))));refine k1 ?_;refine B0 rfl (fun ht=>?_) (fun ht=>?_)
 ·cases ht
 refine k5 (k1 (k2 (A2 (A3 J J (A3 J J (A5 (D1 (c:=strsC) (ys:=[x,y]) (E5 J J J J (E5 J J J J H1)) J J J) J (D8 (hid) J J J ?_)))))));rintro _ rfl;refine A6 J J (A4 ?_);refine k1 (k2 (F5 (by kernel_rfl) (by kernel_rfl) (F9 J J (B5 (B3 J (.pure _ _ _ _) J (by omega) hv0) J J (B5 (B1 J J) J J (F9 J J (B5 (B3 J (.pure _ _ _ _) J (by omega) hv1) J J (B5 (B1 J J) J J (B5 (U4 (hwk) J J) J J (F9 J J (B5 (Y0 J J) J J (B5 (Y0 J J) J J (B5 (J8 J J) J J (B5 (J8 J J) J J (R1 ?_)))))))))))))));refine k1 (k2 (A2 (D2 (Y1 14 _ P5 J) J (A4 ?_))));refine k1 (k2 (k2 (A2 (A3 J J (F3 J J (A3 J J (A4 ?_)))))));refine k1 (k3 (D6 (X:=Nat) (fun i=>([(3,.s (.one (.eref Unit 2 (E44 A) () 0))),(8,D5 Str 1 P5 x),(10,D5 Str 1 P5 y),(14,.s (.one (.buf 14 Str 1 P5 (P9 (x3 A) x y (L.take i))))),(51,.s (pChanges L).s1),(52,C3 L.length),(53,C3 i)],[(14,.spare (P9 (x3 A) x y (L.take i)).length 1 9)])) (fun i=>i≤L.length) (fun i=>L.length - i) 0 (Nat.zero_le _) (Sees.of ⟨le1 rfl,le1 rfl,le1 rfl,le1 rfl,le1 rfl,le1 rfl,le1 rfl,trivial⟩ ⟨rfl,trivial⟩) ?_))
 intro i hi
 have hml:=B67 (x3 A) x y (L.take i)
 rw [J70] at hml
 have hml2:(P9 (x3 A) x y (L.take i)).length≤4097*8192:=Nat.le_trans hml (Nat.mul_le_mul (by omega) (by omega))
 dsimp only at hi ⊢
 refine k2 (A2 (G7 J J J (A4 ?_)));refine k1 (k2 ?_);refine B0 rfl (fun ht=>?_) (fun ht=>?_)
 rotate_left
 ·have hie:i=L.length:=by have:=A1 ht;omega
  rw [hie,J67]
  refine k6 (k2 (A2 (A3 J J (A6 J J (A6 J J (A4 ?_))))));refine k1 (k10 ?_)
  exact B7 (rs:=[B91 (P9 (x3 A) x y L),G1 0]) (l9 rfl rfl rfl rfl rfl) rfl
 have hlt:i < L.length:=by have:=A0 ht;omega
 obtain ⟨c,hc⟩:∃c,c=L[i]:=⟨_,rfl⟩
 have hvc:L[i]?=some c:=by rw [hc];simp [hlt]
 obtain ⟨q1,q2,q3,q4,q5,q6⟩:=hLb c (J69 hvc)
 obtain ⟨W,hW⟩:∃W,W=P9 (x3 A) x y (L.take i):=⟨_,rfl⟩
 have hnx:P9 (x3 A) x y (L.take (i+1))=W++x8 (x3 A) (Y6 x y c):=by
  rw [F90 hvc,hW];unfold P9;rw [List.flatMap_append,List.flatMap_singleton]
 rw [←hW] at hml2 ⊢
 have hCl:=D72 x y c
 have hcs:=F87 [(x.drop c.Old.toNat).take ((c.Old+c.OldLen).toNat - c.Old.toNat),(y.drop c.New.toNat).take ((c.New+c.NewLen).toNat - c.New.toNat)] (by simp) (by
  simp only [J92,List.flatten_nil,J87]
  exact Nat.le_trans hCl (by omega))
 have hfl:[(x.drop c.Old.toNat).take ((c.Old+c.OldLen).toNat - c.Old.toNat),(y.drop c.New.toNat).take ((c.New+c.NewLen).toNat - c.New.toNat)].flatten=Y6 x y c:=by
  simp only [J92,List.flatten_nil,J87];rfl
 rw [hfl] at hcs
 refine k5 (k1 (k2 (k3 (k2 (A2 (A5 (B3 J (.pure _ _ _ _) J (by omega) hvc) J (A5 (E3 J J) J (D2 (I9 16 J) J (H7 (C4 TySz.out J J J J J J) (A4 ?_))))))))));refine k1 (k2 (F5 (by kernel_rfl) (by kernel_rfl) (F9 J J (B5 (A7 J) J J (B5 (C6 J J J) J J (B5 (A7 J) J J (B5 (C6 J J J) J J (B5 (A7 J) J J (B5 (C6 J J J) J J (B5 (q9 J J (by (first | omega | decide))) J J (B5 (D96 J (.pure _ _ _ _) J J (by (first | omega | decide)) (by (first | omega | decide)) (by (first | omega | decide))) J J (F9 J J (B5 (A7 J) J J (B5 (C6 J J J) J J (B5 (A7 J) J J (B5 (C6 J J J) J J (B5 (A7 J) J J (B5 (C6 J J J) J J (B5 (q9 J J (by (first | omega | decide))) J J (B5 (D96 J (.pure _ _ _ _) J J (by (first | omega | decide)) (by (first | omega | decide)) (by (first | omega | decide))) J J (B5 (D1 (c:=strsC) (ys:=[(x.drop c.Old.toNat).take ((c.Old+c.OldLen).toNat - c.Old.toNat),(y.drop c.New.toNat).take ((c.New+c.NewLen).toNat - c.New.toNat)]) (E5 J J J J (E5 J J J J H1)) J J J) J J (B5 (U4 (hcs) J J) J J (B5 (r5 J (.pure _ _ _ _)) J J ?_)))))))))))))))))))))));refine F9 J J (R1 ?_);refine k1 (k3 ?_)
 obtain ⟨M,hM⟩:∃M,M=Y6 x y c:=⟨_,rfl⟩
 have hMs:∀s∈M,s.length≤1048576:=fun s hs=>by
  rw [hM] at hs
  exact (H02 hs).elim (hxl s) (hyl s)
 rw [←hM] at hCl hnx ⊢
 refine D6 (X:=Nat) (fun j=>([(3,.s (.one (.eref Unit 2 (E44 A) () 0))),(8,D5 Str 1 P5 x),(10,D5 Str 1 P5 y),(14,.s (.one (.buf 14 Str 1 P5 (W++x8 (x3 A) (M.take j))))),(51,.s (pChanges L).s1),(52,C3 L.length),(53,C3 i),(76,D5 Str 1 P5 M),(77,C3 M.length),(78,C3 j)],[(14,.spare (W++x8 (x3 A) (M.take j)).length 1 9)])) (fun j=>j≤M.length) (fun j=>M.length - j) 0 (Nat.zero_le _) ?_ ?_
 ·dsimp only
  rw [List.take_zero,show x8 (x3 A) []=[] from rfl,J87]
  exact Sees.of ⟨le1 rfl,le1 rfl,le1 rfl,le1 rfl,le1 rfl,le1 rfl,le1 rfl,le1 rfl,le1 rfl,le1 rfl,trivial⟩ ⟨rfl,trivial⟩
 intro j hj
 have hhl:=H03 (x3 A) (M.take j)
 rw [J70] at hhl
 dsimp only at hj ⊢
 refine k2 (A2 (G7 J J J (A4 ?_)));refine k1 (k2 ?_);refine B0 rfl (fun ht=>?_) (fun ht=>?_)
 rotate_left
 ·have hje:j=M.length:=by have:=A1 ht;omega
  rw [hje,J67,←hnx]
  refine k6 (k7 (k7 (k8 J (k4 (k1 (A2 (E4 J J J (A3 J J (A4 ?_)))))))));refine k1 ?_
  exact ⟨i+1,by omega,by omega,Sees.of ⟨le1 rfl,le1 rfl,le1 rfl,le1 rfl,le1 rfl,le1 rfl,le1 rfl,trivial⟩ ⟨rfl,trivial⟩⟩
 have hjlt:j < M.length:=by have:=A0 ht;omega
 obtain ⟨s,hs⟩:∃s,s=M[j]:=⟨_,rfl⟩
 have hvs:M[j]?=some s:=by rw [hs];simp [hjlt]
 have hsl:=hMs s (J69 hvs)
 have hba:=J02 s (by omega)
 have hbl:(R4 s).length≤16777216:=by unfold R4;split<;>(try rw [List.length_dropLast])<;>omega
 obtain ⟨V,hV⟩:∃V,V=W++x8 (x3 A) (M.take j):=⟨_,rfl⟩
 have hVl:V.length≤4097*8192+8192:=by rw [hV,J63];omega
 have hVn:W++x8 (x3 A) (M.take (j+1))=V++(if x3 A (R4 s)=true then [R4 s] else []):=by
  rw [hV,F90 hvs]
  unfold x8
  rw [J91,List.filter_append,J73]
  congr 2
  simp only [J77,List.map_nil,K04,List.filter_nil]
 rw [←hV]
 refine k5 (k1 (k2 (k3 (k2 (A2 (A5 (B3 J (.pure _ _ _ _) J (by omega) hvs) J (A5 (B1 J J) J (A6 J J (A4 ?_)))))))));refine k1 (k2 (F5 (by kernel_rfl) (by kernel_rfl) (B5 (E3 J J) J J (F9 J J (B5 (U4 (hba) J J) J J (B5 (U4 (anyG_ok A (R4 s) hA hbl) J J) J J (F9 J J (B5 (Y0 J J) J J (B5 (Y0 J J) J J (B5 (J8 J J) J J (B5 (J8 J J) J J (R1 ?_))))))))))));refine k1 (k2 (A2 (A3 J J (A4 ?_))));refine k1 ?_;refine B0 rfl (fun ht=>?_) (fun ht=>?_)
 ·rw [if_pos ht] at hVn
  skip
  refine A2 (A3 J J (A3 J J (D8 (hba) J J J ?_)));rintro _ rfl;refine A5 (D1 (c:=P5) (ys:=[R4 s]) (E5 J J J J H1) J J J) J (D2 (M6 J J J (.pure _ _ _ _) (by (simp only [J64,J68];omega)) J) J (A6 J J (A4 ?_)));refine k4 (k1 (A2 (E4 J J J (A3 J J (A4 ?_)))));refine k1 ?_;refine ⟨j+1,by omega,by omega,?_⟩
  (try dsimp only)
  rw [hVn]
  exact Sees.of ⟨le1 rfl,le1 rfl,le1 rfl,le1 rfl,le1 rfl,le1 rfl,le1 rfl,le1 rfl,le1 rfl,le1 rfl,trivial⟩ ⟨rfl,trivial⟩
 ·rw [if_neg (fun h=>by rw [show (B66 A (R4 s) 0).2=true from h] at ht;cases ht),J87] at hVn
  refine k5 (k4 (k1 (A2 (E4 J J J (A3 J J (A4 ?_))))));refine k1 ?_;refine ⟨j+1,by omega,by omega,?_⟩
  (try dsimp only)
  rw [hVn]
  exact Sees.of ⟨le1 rfl,le1 rfl,le1 rfl,le1 rfl,le1 rfl,le1 rfl,le1 rfl,le1 rfl,le1 rfl,le1 rfl,trivial⟩ ⟨rfl,trivial⟩
theorem G71 (A:AL.Auto) (hA:AG A) (a b:Str) (ha:K9 a=0) (hb:K9 b=0):AL.Met Tryz.prog 26 [G57 (a,b),.one (.eref Unit 2 (E44 A) () 0)] [] [] [] (fun rs ob'=>rs=[A79 (decide (0 < (A54 (x3 A) a b).length))]∧ob'=[]):=by
 refine AL.Met.intro Tryz.func26 (by decide) J J J ?_
 refine k2 (A2 (D2 (l4 2 J J J) J (A6 J J (A4 ?_))));refine k1 (k2 (A2 (A5 (E3 J J) J (A5 (L4 J J (by first | omega | decide) (by omega)) J (G3 J J J J (A5 (L4 J J (by first | omega | decide) (by omega)) J (G3 J J J J (D8 (C61 A hA a b ha hb) J J J ?_))))))));rintro _ rfl;refine A3 J J (H5 J J J (H5 J J J (A6 J J (A6 J J (A4 ?_)))));refine k1 (k2 (A2 (A3 J J (F3 J J (A5 (R8 J J) J (A6 J J (A4 ?_)))))));refine k1 (k10 ?_);refine E0 (H9 rfl rfl) (by repeat (first | exact A8 | refine A9 rfl ?_ | refine B6 _ ?_)) (ObIn.spec (ob':=[]) trivial) ⟨?_,rfl⟩
 first
  | rfl
  | (congr 1;simp)
set_option maxHeartbeats 1000000
theorem F91 {x:Int} (hx:0≤x∧x < 18446744073709551616) (c:Nat):IntKind.u64.wrap ((BitVec.ofInt IntKind.u64.bits x ||| BitVec.ofInt IntKind.u64.bits (IntKind.u64.wrap (1*2 ^ (min ((c:Int).tmod 64).toNat IntKind.u64.bits)))).toNat:Int)=orI x (2 ^ (c % 64)):=by
 obtain ⟨p,hpd⟩:∃p:Nat,p=2 ^ (c % 64):=⟨_,rfl⟩
 have hp0:p < 2 ^ 64:=by rw [hpd];exact Nat.pow_lt_pow_right (by decide) (Nat.mod_lt _ (by decide))
 have hp:p < 18446744073709551616:=hp0
 have e0:((2:Int) ^ (c % 64))=(p:Int):=by rw [hpd];simp
 have e1:IntKind.u64.wrap (1*2 ^ (c % 64))=(p:Int):=by
  rw [Int.one_mul,e0]
  exact u64_id ⟨by omega,by omega⟩
 rw [rem64,e1,e0]
 have hor0:=Nat.or_lt_two_pow (x:=x.toNat) (y:=p) (n:=64) (show x.toNat < 18446744073709551616 by omega) hp0
 have hor:x.toNat ||| p < 18446744073709551616:=hor0
 have e2:(BitVec.ofInt IntKind.u64.bits x ||| BitVec.ofInt IntKind.u64.bits (p:Int)).toNat=x.toNat ||| p:=by
  rw [BitVec.toNat_or,BitVec.toNat_ofInt,BitVec.toNat_ofInt,show ((2 ^ IntKind.u64.bits:Nat):Int)=18446744073709551616 by rfl]
  rw [show (x % 18446744073709551616).toNat=x.toNat by omega,show ((p:Int) % 18446744073709551616).toNat=p by omega]
 rw [e2,u64_id ⟨by omega,by omega⟩]
 unfold orI
 rw [J62]
theorem with_ok (z:Set4) (hz:I30 z) (c:UInt8):FnOk Tryz.prog 191 [F48 z,pByte c] (fun rs=>rs=[F48 (z.with_ c.toNat)]):=by
 obtain ⟨z1,z2,z3,z4⟩:=hz
 have hd:c.toNat / 64=0∨c.toNat / 64=1∨c.toNat / 64=2∨c.toNat / 64=3:=by have:=c.toNat_lt;omega
 have hm0:0≤(c.toNat:Int).tmod 64:=Int.tmod_nonneg _ (by omega)
 refine FnOk.intro Tryz.func191 (by decide) J J J J ?_
 refine k2 (A2 (D2 (l4 2 J J J) J (D2 (I9 4 J) J (A4 ?_))));refine k1 (k2 ?_)
 rcases hd with hd | hd | hd | hd
 all_goals
  have hq4:=quo64 c.toNat_lt hd
  refine A2 (A3 J J (A5 (D84 J J (by decide)) J (A5 (l0 J J (hq4) (by decide)) J (G3 J J J J (A3 J J (A5 (D31 J J (by decide)) J (A5 (n_shl J J (by (exact hm0))) J ?_)))))));refine A5 (C92 J J J (fun _=>rfl)) J (A5 (l0 J J (hq4) (by decide)) J (H7 (C4 TySz.out J J J J J J) (A4 ?_)));refine k1 (k2 (A2 (A5 (U1 J J J) J (H7 (C4 TySz.out J J J J J J) (A4 ?_)))));refine k1 (k10 (B7 (retc J J J J J) ?_))
  unfold Set4.with_
  rw [hd]
  simp only [F91 z1,F91 z2,F91 z3,F91 z4]
def j1 (c:UInt8):Bool:=decide (c∉([40,41,91,123,42,43,63,124,46,92]:Str))
def F92 (c:UInt8):AL.Node:=if c=94 then ⟨2,set0,0,0,[]⟩ else if c=36 then ⟨3,set0,0,0,[]⟩ else ⟨1,set0.with_ c.toNat,0,0,[]⟩
def B52 (s:Str) (i:Nat):List AL.Node:=(s.take i).map F92
theorem G72 {s:Str} {i:Nat} (h:i≤s.length):(B52 s i).length=i:=by unfold B52;rw [J85,J70];omega
theorem I64 {s:Str} {i:Nat} {c:UInt8} (h:s[i]?=some c):B52 s (i+1)=B52 s i++[F92 c]:=by
 unfold B52;rw [List.take_add_one,h,Option.toList_some,J91];rfl
theorem D14 {c:UInt8} (h:j1 c=true):∀k∈([40,41,91,123,42,43,63,124,46,92]:Str),¬((c.toNat:Int)=k.toNat):=fun k hk e=>by
 have h1:=A0 h
 exact h1 (by rw [UInt8.toNat_inj.1 (Int.ofNat.inj e)];exact hk)
theorem I65:I30 set0:=⟨⟨by decide,by decide⟩,⟨by decide,by decide⟩,⟨by decide,by decide⟩,⟨by decide,by decide⟩⟩
theorem J21 {s:Str} (hsim:∀c∈s,j1 c=true) (i:Nat):∀k∈([40,41,91,123,42,43,63,124,46,92]:Str),¬s[i]?=some k:=fun k hk e=>D14 (hsim k (J69 e)) k hk rfl
theorem H61 {gf:Fr} {ob:Obs} (s:Str) (hsim:∀c∈s,j1 c=true) (a d:Nat) (ha:a≤s.length) (hs:s.length≤1000) (h0:B4 ob 810=some (M8 s a d)) :
  AL.Met Tryz.prog 149 [P0] gf ob [] (fun rs ob'=>rs=[M3 0,M3 0,A79 false]∧ob'=(810,M8 s a d)::ob):=by
 have hq:=J21 hsim a
 refine AL.Met.introH Tryz.func149 (by decide) rfl rfl rfl (fun hH=>?_)
 refine D9 (J36 (l:=[(0,.s P0)]) (ob':=(810,M8 s a d)::ob) ⟨le1 rfl,trivial⟩ hH (by repeat (first | exact A8 | refine A9 rfl ?_)) (C9 (L:=[(810,_)]) ⟨h0,trivial⟩ B8)) ?_
 refine k2 (A2 (A6 J J (A6 J J (A6 J J (A4 ?_)))));refine k1 (k2 (k3 (k2 (A2 (A3 J J (H4 (A80 s a d 42 (hq 42 (by decide)) ha hs J) J J J ?_))))));rintro _ _ ⟨rfl,rfl⟩;refine A6 J J (A4 ?_);refine k1 ?_;refine B0 rfl (fun ht=>?_) (fun ht=>?_)
 ·cases ht
 refine k2 (A2 (A3 J J (H4 (A80 s a d 43 (hq 43 (by decide)) ha hs J) J J J ?_)));rintro _ _ ⟨rfl,rfl⟩;refine A6 J J (A4 ?_);refine k1 ?_;refine B0 rfl (fun ht=>?_) (fun ht=>?_)
 ·cases ht
 refine k2 (A2 (A3 J J (H4 (A80 s a d 63 (hq 63 (by decide)) ha hs J) J J J ?_)));rintro _ _ ⟨rfl,rfl⟩;refine A6 J J (A4 ?_);refine k1 ?_;refine B0 rfl (fun ht=>?_) (fun ht=>?_)
 ·cases ht
 refine k2 (A2 (A3 J J (H4 (A80 s a d 123 (hq 123 (by decide)) ha hs J) J J J ?_)));rintro _ _ ⟨rfl,rfl⟩;refine A6 J J (A4 ?_);refine k1 ?_;refine B0 rfl (fun ht=>?_) (fun ht=>?_)
 ·cases ht
 refine k5 (k2 (A2 (A6 J J (A6 J J (A6 J J (A4 ?_))))));refine k1 (k10 ?_)
 exact E0 (rets3 rfl rfl rfl rfl) (by repeat (first | exact A8 | refine A9 rfl ?_ | refine B6 _ ?_)) (C9 (L:=[(810,_)]) ⟨rfl,trivial⟩ (by repeat (first | exact B8 | refine C0 rfl ?_))) ⟨rfl,rfl⟩
theorem D49 {gf:Fr} {ob:Obs} (s:Str) (hsim:∀c∈s,j1 c=true) (a d:Nat) (l:List AL.Node) (kind:Int) (ha:a < s.length) (hs:s.length≤1000) (hl:l.length≤1000) (h0:B4 ob 810=some (M8 s a d)) (h1:B4 ob 811=some (M4 l)) :
  AL.Met Tryz.prog 147 [P0,M3 kind] gf ob [811] (fun rs ob'=>rs=[M3 l.length]∧ob'=(810,M8 s (a+1) d)::(811,M4 (l++[⟨kind,set0,0,0,[]⟩]))::Obs.forget 811 ob):=by
 refine AL.Met.introH Tryz.func147 (by decide) rfl rfl rfl (fun hH=>?_)
 refine D9 (J37 811 (l:=[(0,.s P0),(1,.s (M3 kind))]) (L:=[(810,_),(811,_)]) ⟨le1 rfl,le1 rfl,trivial⟩ hH (by repeat (first | exact A8 | refine A9 rfl ?_)) ⟨h0,h1,trivial⟩) ?_
 refine k2 (A2 (A6 J J (A4 ?_)));refine k1 (k2 (A2 (A3 J J (A5 (B2 J) J (A5 (A7 J) J (G3 J J J J (E4 J J J (A5 (B2 J) J (A5 (A7 J) J (H7 (C4 TySz.out J J J J J J) (A4 ?_)))))))))));refine k1 (k2 (A2 (A3 J J (A3 J J (A5 (I8 J) J (C96 ((J42 Int 1 F0 17 7 J J)) (H4 (A09 s (a+1) d l ⟨kind,set0,0,0,[]⟩ hl J J) J J J ?_)))))));rintro _ _ ⟨rfl,rfl⟩;refine A6 J J (A4 ?_);refine k1 (k2 (k2 (A2 (A3 J J (H4 (A08 s (a+1) d (by omega) hs J) J J J ?_)))));rintro _ _ ⟨rfl,rfl⟩;refine A3 J J (H5 J J J (H5 J J J (A6 J J (A6 J J (A4 ?_)))));refine k1 (k2 ?_)
 by_cases hlt:a+1 < s.length
 ·obtain ⟨c,hc⟩:∃c,c=s.getD (a+1) 0:=⟨_,rfl⟩
  have hcs:j1 c=true:=hsim c (by rw [hc,J65,J60 hlt];exact J66 hlt)
  rw [decide_eq_true hlt,←hc]
  refine A2 (A3 J J (A3 J J (G6 J J J J (A3 J J (G6 J J J J (D8 (C54 [42,43,63,123] c) J J J ?_))))));rintro _ rfl;refine G6 J J J J (A5 (U8 J J) J (A5 (O8 J (rfl) J) J (A4 ?_)));refine k1 ?_;refine B0 rfl (fun ht=>?_) (fun ht=>?_)
  ·exfalso
   have h3:=(C09 c _).1 (A0 ht)
   have hsub:∀x∈([42,43,63,123]:Str),x∈([40,41,91,123,42,43,63,124,46,92]:Str):=by decide
   exact A0 hcs (hsub c h3)
  refine k5 (k1 (k2 (A2 (A3 J J (A6 J J (A4 ?_))))));refine k1 (k10 ?_)
  exact E0 (H9 rfl rfl) (by repeat (first | exact A8 | refine tail_drop rfl ?_ | refine A9 rfl ?_ | refine H2 _ ?_ | refine B6 _ ?_)) (C9 (L:=[(810,_),(811,_)]) ⟨rfl,rfl,trivial⟩ (by repeat (first | exact B8 | refine C0 rfl ?_ | refine J3 _ ?_))) ⟨rfl,rfl⟩
 rw [decide_eq_false hlt]
 refine A2 (A3 J J (A3 J J (I6 J J J (by decide) J (I6 J J J (by decide) J (I6 J J J (by decide) J (A5 (W9 J (rfl) J) J (A4 ?_)))))));refine k1 ?_;refine B0 rfl (fun ht=>?_) (fun ht=>?_)
 ·cases ht
 refine k5 (k1 (k2 (A2 (A3 J J (A6 J J (A4 ?_))))));refine k1 (k10 ?_)
 exact E0 (H9 rfl rfl) (by repeat (first | exact A8 | refine tail_drop rfl ?_ | refine A9 rfl ?_ | refine H2 _ ?_ | refine B6 _ ?_)) (C9 (L:=[(810,_),(811,_)]) ⟨rfl,rfl,trivial⟩ (by repeat (first | exact B8 | refine C0 rfl ?_ | refine J3 _ ?_))) ⟨rfl,rfl⟩
theorem I66 {gf:Fr} {ob:Obs} (c:UInt8) (hc:j1 c=true) :
  AL.Met Tryz.prog 148 [P0,W4 c] gf ob [] (fun rs ob'=>rs=[.one (.clo 177 [(810,0)] [])]∧ob'=ob):=by
 have hn:=D14 hc
 refine AL.Met.intro Tryz.func148 (by decide) J J J ?_
 refine k2 (A2 (A6 J J (A4 ?_)));refine k1 (k2 (k2 (A2 (A3 J J (A4 ?_)))));refine k1 (k3 (k2 (A2 (A5 (F4 J J) J (A6 J J (A4 ?_))))));refine k1 ?_;refine B0 rfl (fun ht=>?_) (fun ht=>?_)
 ·exact absurd (A0 ht) (hn 40 (by decide))
 refine k2 (A2 (A5 (F4 J J) J (A6 J J (A4 ?_))));refine k1 ?_;refine B0 rfl (fun ht=>?_) (fun ht=>?_)
 ·exact absurd (A0 ht) (hn 91 (by decide))
 refine k2 (A2 (A5 (F4 J J) J (A6 J J (A4 ?_))));refine k1 ?_;refine B0 rfl (fun ht=>?_) (fun ht=>?_)
 ·exact absurd (A0 ht) (hn 46 (by decide))
 refine k2 (A2 (A5 (F4 J J) J (A6 J J (A4 ?_))));refine k1 ?_;refine B0 rfl (fun ht=>?_) (fun ht=>?_)
 ·exact absurd (A0 ht) (hn 92 (by decide))
 refine k2 (k2 (A2 (A5 (F4 J J) J (A6 J J (A4 ?_)))));refine k1 ?_;refine B0 rfl (fun ht=>?_) (fun ht=>?_)
 ·exact absurd (A0 ht) (hn 42 (by decide))
 refine k2 (A2 (A5 (F4 J J) J (A6 J J (A4 ?_))));refine k1 ?_;refine B0 rfl (fun ht=>?_) (fun ht=>?_)
 ·exact absurd (A0 ht) (hn 43 (by decide))
 refine k2 (A2 (A5 (F4 J J) J (A6 J J (A4 ?_))));refine k1 ?_;refine B0 rfl (fun ht=>?_) (fun ht=>?_)
 ·exact absurd (A0 ht) (hn 63 (by decide))
 skip
 refine A2 (A5 (F4 J J) J (A6 J J (A4 ?_)));refine k1 ?_;refine B0 rfl (fun ht=>?_) (fun ht=>?_)
 ·exact absurd (A0 ht) (hn 123 (by decide))
 refine k5 (k2 (A2 (A3 J J (A5 (m8 J J) J (A6 J J (A4 ?_))))));refine k1 (k10 ?_)
 exact E0 (H9 rfl rfl) (by repeat (first | exact A8 | refine A9 rfl ?_ | refine B6 _ ?_)) (fun _ _ h=>h) ⟨rfl,rfl⟩
theorem G73 {gf:Fr} {ob:Obs} (s:Str) (a d:Nat) (c:UInt8) (l:List AL.Node) (h:s[a]?=some c) (hs:s.length≤1000) (hl:l.length≤1000) (h0:B4 ob 810=some (M8 s a d)) (h1:B4 ob 811=some (M4 l)) :
  AL.Met Tryz.prog 177 [P0] gf ob [811] (fun rs ob'=>rs=[M3 l.length]∧ob'=(810,M8 s (a+1) d)::(811,M4 (l++[⟨1,set0.with_ c.toNat,0,0,[]⟩]))::Obs.forget 811 ob):=by
 refine AL.Met.introH Tryz.func177 (by decide) rfl rfl rfl (fun hH=>?_)
 refine D9 (J37 811 (l:=[(0,.s P0)]) (L:=[(810,_),(811,_)]) ⟨le1 rfl,trivial⟩ hH (by repeat (first | exact A8 | refine A9 rfl ?_)) ⟨h0,h1,trivial⟩) ?_
 refine k2 (A2 (A6 J J (A4 ?_)));refine k1 (k2 (A2 (A3 J J (A5 (C18 J) J (A3 J J (H4 (F25 s a d c h hs J) J J J ?_))))));rintro _ _ ⟨rfl,rfl⟩;refine D8 (with_ok set0 I65 c) J J J ?_;rintro _ rfl;refine H4 (G58 s (a+1) d l (set0.with_ c.toNat) hl J J) J J J ?_;rintro _ _ ⟨rfl,rfl⟩;refine A6 J J (A4 ?_);refine k1 (k10 ?_)
 exact E0 (H9 rfl rfl) (by repeat (first | exact A8 | refine tail_drop rfl ?_ | refine A9 rfl ?_ | refine H2 _ ?_ | refine B6 _ ?_)) (C9 (L:=[(810,_),(811,_)]) ⟨rfl,rfl,trivial⟩ (by repeat (first | exact B8 | refine C0 rfl ?_ | refine J3 _ ?_))) ⟨rfl,rfl⟩
theorem H62 {gf:Fr} {ob:Obs} (s:Str) (hsim:∀c∈s,j1 c=true) (hs:s.length≤256) (a d:Nat) (c:UInt8) (h:s[a]?=some c) (h0:B4 ob 810=some (M8 s a d)) (h1:B4 ob 811=some (M4 (B52 s a))) :
  AL.Met Tryz.prog 125 [P0,W4 c] gf ob [811] (fun rs ob'=>rs=[M3 a]∧ob'=(810,M8 s (a+1) d)::(811,M4 (B52 s (a+1)))::Obs.forget 811 ob):=by
 have hlt:=(List.getElem?_eq_some_iff.1 h).1
 have hll:=G72 (s:=s) (i:=a) (by omega)
 obtain ⟨l,hld⟩:∃l,l=B52 s a:=⟨_,rfl⟩
 have hnx:B52 s (a+1)=l++[F92 c]:=by rw [I64 h,hld]
 rw [←hld] at h1 hll
 have hal:(a:Int)=(l.length:Int):=by omega
 have hcs:=hsim c (J69 h)
 have hu:∀k:UInt8,(c.toNat:Int)=k.toNat→c=k:=fun k e=>UInt8.toNat_inj.1 (by omega)
 rw [hnx]
 refine AL.Met.introH Tryz.func125 (by decide) rfl rfl rfl (fun hH=>?_)
 refine D9 (J37 811 (l:=[(0,.s P0),(1,.s (W4 c))]) (L:=[(810,_),(811,_)]) ⟨le1 rfl,le1 rfl,trivial⟩ hH (by repeat (first | exact A8 | refine A9 rfl ?_)) ⟨h0,h1,trivial⟩) ?_
 refine k2 (A2 (A6 J J (A4 ?_)));refine k1 (k2 (k2 (A2 (A3 J J (A4 ?_)))));refine k1 (k3 (k2 (A2 (A5 (F4 J J) J (A6 J J (A4 ?_))))));refine k1 ?_;refine B0 rfl (fun ht=>?_) (fun ht=>?_)
 ·have hc:=hu 94 (A0 ht)
  rw [show F92 c=⟨2,set0,0,0,[]⟩ by unfold F92;rw [if_pos hc],hal]
  refine k2 (A2 (A3 J J (H4 (D49 s hsim a d l 2 hlt (by omega) (by omega) J J) J J J ?_)));rintro _ _ ⟨rfl,rfl⟩;refine A6 J J (A4 ?_);refine k1 (k10 (k12 (k11 ?_)))
  exact E0 (H9 rfl rfl) (by repeat (first | exact A8 | refine tail_drop rfl ?_ | refine A9 rfl ?_ | refine H2 _ ?_ | refine B6 _ ?_)) (C9 (L:=[(810,_),(811,_)]) ⟨rfl,rfl,trivial⟩ (by repeat (first | exact B8 | refine C0 rfl ?_ | refine J3 _ ?_))) ⟨rfl,rfl⟩
 have hc94:¬c=94:=fun e=>A1 ht (by rw [e];rfl)
 refine k2 (A2 (A5 (F4 J J) J (A6 J J (A4 ?_))));refine k1 ?_;refine B0 rfl (fun ht=>?_) (fun ht=>?_)
 ·have hc:=hu 36 (A0 ht)
  rw [show F92 c=⟨3,set0,0,0,[]⟩ by unfold F92;rw [if_neg hc94,if_pos hc],hal]
  refine k2 (A2 (A3 J J (H4 (D49 s hsim a d l 3 hlt (by omega) (by omega) J J) J J J ?_)));rintro _ _ ⟨rfl,rfl⟩;refine A6 J J (A4 ?_);refine k1 (k10 (k12 (k11 ?_)))
  exact E0 (H9 rfl rfl) (by repeat (first | exact A8 | refine tail_drop rfl ?_ | refine A9 rfl ?_ | refine H2 _ ?_ | refine B6 _ ?_)) (C9 (L:=[(810,_),(811,_)]) ⟨rfl,rfl,trivial⟩ (by repeat (first | exact B8 | refine C0 rfl ?_ | refine J3 _ ?_))) ⟨rfl,rfl⟩
 have hc36:¬c=36:=fun e=>A1 ht (by rw [e];rfl)
 rw [show F92 c=⟨1,set0.with_ c.toNat,0,0,[]⟩ by unfold F92;rw [if_neg hc94,if_neg hc36],hal]
 refine k5 (k2 (A2 (A3 J J (A3 J J (H4 (I66 c hcs) J J J ?_)))));rintro _ _ ⟨rfl,rfl⟩;refine A6 J J (A4 ?_);refine k1 (k2 (A2 (A3 J J (A96 (G73 s a d c l h (by omega) (by omega) J J) J J J J ?_))));rintro _ _ ⟨rfl,rfl⟩;refine A6 J J (A4 ?_);refine k1 (k2 (A2 (A3 J J (H4 (H61 s hsim (a+1) d (by omega) (by omega) J) J J J ?_))));rintro _ _ ⟨rfl,rfl⟩;refine A3 J J (H5 J J J (H5 J J J (H5 J J J (A6 J J (A6 J J (A6 J J (A4 ?_)))))));refine k1 (k2 (k2 (A2 (A3 J J (A5 (U0 J) J (A4 ?_))))));refine k1 ?_;refine B0 rfl (fun ht=>?_) (fun ht=>?_)
 rotate_left
 ·cases ht
 refine k2 (A2 (A3 J J (A6 J J (A4 ?_))));refine k1 (k10 (k11 ?_))
 exact E0 (H9 rfl rfl) (by repeat (first | exact A8 | refine tail_drop rfl ?_ | refine A9 rfl ?_ | refine H2 _ ?_ | refine B6 _ ?_)) (C9 (L:=[(810,_),(811,_)]) ⟨rfl,rfl,trivial⟩ (by repeat (first | exact B8 | refine C0 rfl ?_ | refine J3 _ ?_))) ⟨rfl,rfl⟩
set_option maxHeartbeats 1000000
def a6 (n:Nat):List Int:=(List.range n).map fun i:Nat=>(i:Int)
theorem H63 (n:Nat):(a6 n).length=n:=by simp [a6]
theorem G74 (n:Nat):a6 (n+1)=a6 n++[(n:Int)]:=by unfold a6;rw [K08,J91];rfl
def A82 (s:Str):List AL.Node:=if s.length=0 then [B28] else if s.length=1 then B52 s s.length else B52 s s.length++[⟨4,set0,0,0,a6 s.length⟩]
def E47 (s:Str):Int:=if s.length≤1 then 0 else s.length
theorem H64 {gf:Fr} {ob:Obs} (s:Str) (a d:Nat) (l:List AL.Node) (kind:Int) (hl:l.length≤1000) (h0:B4 ob 810=some (M8 s a d)) (h1:B4 ob 811=some (M4 l)) :
  AL.Met Tryz.prog 88 [P0,M3 kind,.one (.p (.list Int 1 F0 []))] gf ob [811] (fun rs ob'=>rs=[M3 l.length]∧ob'=(810,M8 s a d)::(811,M4 (l++[B28]))::Obs.forget 811 ob):=by
 refine AL.Met.introH Tryz.func88 (by decide) rfl rfl rfl (fun hH=>?_)
 refine D9 (J37 811 (l:=[(0,.s P0),(1,.s (M3 kind)),(2,D5 Int 1 F0 [])]) (L:=[(810,_),(811,_)]) ⟨le1 rfl,le1 rfl,le1 rfl,trivial⟩ hH (by repeat (first | exact A8 | refine A9 rfl ?_)) ⟨h0,h1,trivial⟩) ?_
 refine k2 (A2 (A6 J J (A4 ?_)));refine k1 (k2 (k2 (A2 (A3 J J (F3 J J (A4 ?_))))));refine k1 (k3 (k2 (A2 (A5 (F4 J J) J (A6 J J (A4 ?_))))));refine k1 ?_;refine B0 rfl (fun ht=>?_) (fun ht=>?_)
 rotate_left
 ·exact absurd rfl (A1 ht)
 refine k2 (A2 (A3 J J (A5 (I8 J) J (C96 ((J42 Int 1 F0 12 7 J J)) (H4 (A09 s a d l B28 hl J J) J J J ?_)))));rintro _ _ ⟨rfl,rfl⟩;refine A6 J J (A4 ?_);refine k1 (k10 (k12 (k11 ?_)))
 exact E0 (H9 rfl rfl) (by repeat (first | exact A8 | refine tail_drop rfl ?_ | refine A9 rfl ?_ | refine H2 _ ?_ | refine B6 _ ?_)) (C9 (L:=[(810,_),(811,_)]) ⟨rfl,rfl,trivial⟩ (by repeat (first | exact B8 | refine C0 rfl ?_ | refine J3 _ ?_))) ⟨rfl,rfl⟩
theorem J22 {gf:Fr} {ob:Obs} (s:Str) (hsim:∀c∈s,j1 c=true) (hs:s.length≤256) (d:Nat) (hf:B4 ob 812=none) (h0:B4 ob 810=some (M8 s 0 d)) (h1:B4 ob 811=some (M4 [])) :
  AL.Met Tryz.prog 86 [P0] gf ob [811,812] (fun rs ob'=>rs=[M3 (E47 s)]∧ob'=(810,M8 s s.length d)::(811,M4 (A82 s))::(812,.spare (a6 s.length).length 1 3)::Obs.forget 812 (Obs.forget 811 ob)):=by
 refine AL.Met.introH Tryz.func86 (by decide) rfl rfl rfl (fun hH=>?_)
 refine D9 (J37 811 (l:=[(0,.s P0)]) (L:=[(810,_),(811,_)]) ⟨le1 rfl,trivial⟩ hH (by repeat (first | exact A8 | refine A9 rfl ?_)) ⟨h0,h1,trivial⟩) ?_
 have hf2:B4 ([(810,M8 s 0 d),(811,M4 [])]++Obs.forget 811 ob) 812=none:=by
  show B4 (Obs.forget 811 ob) 812=none
  rw [J7,hf];rfl
 refine k2 (A2 (A6 J J (A4 ?_)));refine k1 (k2 (A2 (A6 J J (A4 ?_))));refine D9 (J50 812 Int 1 F0 3 (t:=3) J hf2 J) ?_
 refine k3 ?_;refine D6 (X:=Nat) (fun i=>([(0,.s P0),(3,.s (.one (.buf 812 Int 1 F0 (a6 i))))]++C1 [811,812] gf,[(810,M8 s i d),(811,M4 (B52 s i)),(812,.spare (a6 i).length 1 3)]++Obs.forget 812 (Obs.forget 811 ob))) (fun i=>i≤s.length) (fun i=>s.length - i) 0 (Nat.zero_le _) ?_ ?_
 ·exact J36 ⟨le1 rfl,le1 rfl,trivial⟩ (D3 hH) (by repeat (first | exact A8 | refine A9 rfl ?_ | refine B6 _ ?_)) (C9 (L:=[(810,_),(811,_),(812,_)]) ⟨rfl,rfl,rfl,trivial⟩ (by repeat (first | exact B8 | refine C0 rfl ?_ | refine J3 _ ?_)))
 intro i hi
 dsimp only at hi ⊢
 have hkl:=H63 i
 have hnl:=G72 hi
 refine k3 (k2 (A2 (A3 J J (H4 (A08 s i d hi (by omega) J) J J J ?_))));rintro _ _ ⟨rfl,rfl⟩;refine A3 J J (H5 J J J (H5 J J J (A6 J J (A6 J J (A4 ?_)))));refine k1 (k2 (k2 (A2 (A3 J J (A5 (U0 J) J (A3 J J (C2 J J J J (fun hg=>by rw [hg];exact C8 J J) ?_)))))));refine C2 J J J J (fun hg=>by rw [hg];exact F4 J J) ?_;refine A5 (D7 J (fun h=>by first | rfl | (rw [h];rfl)) (fun h=>by first | rfl | (rw [h];rfl))) J ?_;refine A3 J J (C2 J J J J (fun hg=>by rw [hg];exact C8 J J) ?_);refine C2 J J J J (fun hg=>by rw [hg];exact F4 J J) ?_;refine A5 (D7 J (fun h=>by first | rfl | (rw [h];rfl)) (fun h=>by first | rfl | (rw [h];rfl))) J ?_;refine A4 ?_;refine k1 ?_
 by_cases h3:i=s.length
 ·subst h3
  rw [decide_eq_false (Nat.lt_irrefl _)]
  refine B0 rfl (fun ht=>?_) (fun ht=>?_)
  rotate_left
  ·cases ht
  refine k2 ?_
  by_cases n0:s.length=0
  ·have e0:a6 s.length=[]:=by rw [n0];rfl
   have e1:B52 s s.length=[]:=List.length_eq_zero_iff.1 (by omega)
   have e2:A82 s=[B28]:=by unfold A82;rw [if_pos n0]
   have e3:E47 s=0:=by unfold E47;rw [if_pos (by omega)]
   rw [e1,e2,e3,e0]
   refine D9 (Sees.forget 812) ?_
   refine A2 (A3 J J (A3 J J (H4 (H64 s s.length d [] 4 (by decide) J J) J J J ?_)));rintro _ _ ⟨rfl,rfl⟩;refine A6 J J (A4 ?_);refine k1 (k10 (k11 (k12 (k11 (k12 ?_)))))
   exact E0 (H9 rfl rfl) (by repeat (first | exact A8 | refine tail_drop rfl ?_ | refine A9 rfl ?_ | refine F2 _ rfl ?_)) (C9 (L:=[(810,_),(811,_),(812,_)]) ⟨rfl,rfl,rfl,trivial⟩ (by repeat (first | exact B8 | refine C0 rfl ?_ | refine J3 _ ?_ | refine t8 _ _ ?_))) ⟨rfl,rfl⟩
  by_cases n1:s.length=1
  ·have e0:a6 s.length=[0]:=by rw [n1];rfl
   have e2:A82 s=B52 s s.length:=by unfold A82;rw [if_neg n0,if_pos n1]
   have e3:E47 s=0:=by unfold E47;rw [if_pos (by omega)]
   rw [e0,e2,e3]
   refine D9 (Sees.forget 812) ?_
   refine A2 (A3 J J (A3 J J (H4 (C21 4 0) J J J ?_)));rintro _ _ ⟨rfl,rfl⟩;refine A6 J J (A4 ?_);refine k1 (k10 (k11 (k12 (k11 (k12 ?_)))))
   exact E0 (H9 rfl rfl) (by repeat (first | exact A8 | refine tail_drop rfl ?_ | refine A9 rfl ?_ | refine F2 _ rfl ?_)) (C9 (L:=[(810,_),(811,_),(812,_)]) ⟨rfl,rfl,rfl,trivial⟩ (by repeat (first | exact B8 | refine C0 rfl ?_ | refine J3 _ ?_ | refine t8 _ _ ?_))) ⟨rfl,rfl⟩
  ·have e2:A82 s=B52 s s.length++[⟨4,set0,0,0,a6 s.length⟩]:=by unfold A82;rw [if_neg n0,if_neg n1]
   have e3:E47 s=((B52 s s.length).length:Int):=by unfold E47;rw [if_neg (by omega),hnl]
   rw [e2,e3]
   refine D9 (Sees.forget 812) ?_
   refine A2 (A3 J J (A3 J J (H4 (E32 s s.length d (B52 s s.length) 4 (a6 s.length) (by omega) (by omega) J J) J J J ?_)));rintro _ _ ⟨rfl,rfl⟩;refine A6 J J (A4 ?_);refine k1 (k10 (k11 (k12 (k11 (k12 ?_)))))
   exact E0 (H9 rfl rfl) (by repeat (first | exact A8 | refine tail_drop rfl ?_ | refine A9 rfl ?_ | refine F2 _ rfl ?_)) (C9 (L:=[(810,_),(811,_),(812,_)]) ⟨rfl,rfl,rfl,trivial⟩ (by repeat (first | exact B8 | refine C0 rfl ?_ | refine J3 _ ?_ | refine t8 _ _ ?_))) ⟨rfl,rfl⟩
 have hlt:i < s.length:=by omega
 obtain ⟨c,hc⟩:∃c,c=s.getD i 0:=⟨_,rfl⟩
 have hv:s[i]?=some c:=by rw [hc,J65,J60 hlt];rfl
 have hn:=D14 (hsim c (J69 hv))
 rw [←hc]
 refine B0 rfl (fun ht=>?_) (fun ht=>?_)
 ·exfalso
  rw [ifOr,ifOr,decide_eq_true hlt,decide_eq_false (show ¬(c.toNat:Int)=124 from hn 124 (by decide)),decide_eq_false (show ¬(c.toNat:Int)=41 from hn 41 (by decide))] at ht
  cases ht
 refine k5 (k1 (A2 (A3 J J (A3 J J (A3 J J (H4 (H62 s hsim hs i d c hv J J) J J J ?_))))));rintro _ _ ⟨rfl,rfl⟩;refine A5 (D1 (c:=F0) (ys:=[(i:Int)]) (E5 J J J J H1) J J J) J (D2 (M6 J J J (.pure _ _ _ _) (by ((try simp only [J64,J68]);omega)) J) J ?_);refine A6 J J (A4 ?_);refine k4 (k1 ?_);refine ⟨i+1,by omega,by omega,?_⟩
 rw [G74 i]
 exact J36 ⟨le1 rfl,le1 rfl,trivial⟩ (D3 hH) (by repeat (first | exact A8 | refine A9 rfl ?_ | refine F2 _ rfl ?_)) (C9 (L:=[(810,_),(811,_),(812,_)]) ⟨rfl,rfl,rfl,trivial⟩ (by repeat (first | exact B8 | refine C0 rfl ?_ | refine J3 _ ?_ | refine t8 _ _ ?_)))
theorem J23 {gf:Fr} {ob:Obs} (s:Str) (hsim:∀c∈s,j1 c=true) (hs:s.length≤256) (d:Nat) (hf:B4 ob 812=none) (h0:B4 ob 810=some (M8 s 0 d)) (h1:B4 ob 811=some (M4 [])) :
  AL.Met Tryz.prog 57 [P0] gf ob [811,812] (fun rs ob'=>rs=[M3 (E47 s)]∧ob'=(810,M8 s s.length d)::(811,M4 (A82 s))::(812,.spare (a6 s.length).length 1 3)::Obs.forget 812 (Obs.forget 811 ob)):=by
 refine AL.Met.introH Tryz.func57 (by decide) rfl rfl rfl (fun hH=>?_)
 refine k2 (A2 (A6 J J (A4 ?_)));refine k1 (k2 (A2 (A3 J J (H4 (J22 s hsim hs d hf h0 h1) J J J ?_))));rintro _ _ ⟨rfl,rfl⟩;refine A5 (D1 (c:=F0) (ys:=[E47 s]) (E5 J J J J H1) J J J) J (A6 J J (A4 ?_));refine k1 (k2 (k3 ?_));refine D6 (X:=Nat) (fun _=>([(0,.s P0),(3,D5 Int 1 F0 [E47 s])]++C1 [811,812] gf,[(810,M8 s s.length d),(811,M4 (A82 s)),(812,.spare (a6 s.length).length 1 3)]++Obs.forget 812 (Obs.forget 811 ob))) (fun _=>True) (fun i=>i) 0 trivial ?_ ?_
 ·exact J36 ⟨le1 rfl,le1 rfl,trivial⟩ (D3 hH) (by repeat (first | exact A8 | refine A9 rfl ?_ | refine B6 _ ?_)) (C9 (L:=[(810,_),(811,_),(812,_)]) ⟨rfl,rfl,rfl,trivial⟩ (by repeat (first | exact B8 | refine C0 rfl ?_)))
 intro i _
 dsimp only
 have hend:¬s[s.length]?=some 124:=by rw [J80 (Nat.le_refl _)];exact fun h=>by cases h
 refine k2 (k2 (A2 (A3 J J (H4 (A80 s s.length d 124 hend (Nat.le_refl _) (by omega) J) J J J ?_))));rintro _ _ ⟨rfl,rfl⟩;refine A4 ?_;refine k1 ?_;refine B0 rfl (fun ht=>?_) (fun ht=>?_)
 ·cases ht
 refine k6 (k2 (A2 (A3 J J (A3 J J (H4 (C21 5 (E47 s)) J J J ?_)))));rintro _ _ ⟨rfl,rfl⟩;refine A6 J J (A4 ?_);refine k1 (k10 ?_)
 exact E0 (H9 rfl rfl) (by repeat (first | exact A8 | refine tail_drop rfl ?_ | refine A9 rfl ?_ | refine F2 _ rfl ?_)) (C9 (L:=[(810,_),(811,_),(812,_)]) ⟨rfl,rfl,rfl,trivial⟩ (by repeat (first | exact B8 | refine C0 rfl ?_ | refine J3 _ ?_ | refine t8 _ _ ?_))) ⟨rfl,rfl⟩
theorem I67 (s:Str) (hsim:∀c∈s,j1 c=true) (hs:s.length≤256):FnOk Tryz.prog 37 [M1 s] (fun rs=>rs=[x7 (A82 s),G1 0]):=by
 refine FnOk.intro Tryz.func37 (by decide) J J J J ?_
 refine k2 (A2 (D2 (I9 2 J) J (D2 (I9 3 J) J (A4 ?_))));refine k1 (k2 (k2 (A2 (A3 J J (A5 (N2 J) J (A5 (R8 J J) J (A4 ?_)))))));refine k1 ?_;refine B0 rfl (fun ht=>?_) (fun ht=>?_)
 ·have:=A0 ht
  omega
 refine k5 (k1 ?_)
 refine I03 (caps:=[.tmp 2,.tmp 3]) (nc:=[(2,0),(3,0)]) J J D45 ?_
 refine k2 (A2 (A3 J J (A5 (I8 J) J (D2 (l4 810 J J J) J (A6 J J (A4 ?_))))));refine D9 (J41 811 AL.Node 8 w9 152 (kb:=810) (o:=3) J J J) ?_
 refine k2 (A2 (A3 J J (H4 (J23 s hsim hs 0 J J J) J J J ?_)));rintro _ _ ⟨rfl,rfl⟩;refine A4 ?_;refine k1 (k2 (k2 (A2 (A3 J J (A5 (B2 J) J (A5 (A7 J) J (G3 J J J J (A3 J J (A5 (N2 J) J (G7 J J J (A4 ?_)))))))))));refine k1 ?_;refine B0 rfl (fun ht=>?_) (fun ht=>?_)
 ·have:=A0 ht
  omega
 refine k5 (k1 (k2 (A2 (A3 J J (A5 (B2 J) J (A5 (A7 J) J (G3 J J J J (H7 (C4 TySz.out J J J J J J) (H7 (C4 TySz.out J J J J J J) (A4 ?_))))))))));refine k1 (D9 (Sees.freezeG (k:=811) (α:=AL.Node) (ec:=8) (c:=w9) (xs:=A82 s) (e:=152) rfl rfl) ?_)
 refine k10 ?_
 exact B7 (rs:=[x7 (A82 s),G1 0]) (retcc rfl rfl rfl rfl rfl rfl rfl) rfl
set_option maxHeartbeats 1000000
structure GF (B:Nat) (l:List File):Prop where
 len:l.length≤4
 all:∀f∈l,f.Path.length≤3∧f.Blob.length≤B
theorem GF.few {B:Nat} {l:List File} (h:GF B l) (hB:B≤16777216):FewF l :=
 ⟨by have:=h.len;omega,fun f hf=>by have:=(h.all f hf).1;omega,fun f hf=>by have:=(h.all f hf).2;omega⟩
theorem GF.mono {B B':Nat} {l:List File} (h:GF B l) (hB:B≤B'):GF B' l:=⟨h.len,fun f hf=>⟨(h.all f hf).1,by have:=(h.all f hf).2;omega⟩⟩
set_option maxHeartbeats 1000000
structure GG (B:Nat) (g:Graph):Prop where
 len:g.length≤16
 pars:∀c∈g,c.Parents.length≤3∧∀p∈c.Parents,0≤p∧p < (g.length:Int)
 files:∀c∈g,GF B c.Files
theorem GG.few {B:Nat} {g:Graph} (h:GG B g) (hB:B≤16777216):FewT g :=
 ⟨⟨by have:=h.len;omega,fun c hc=>by have:=(h.pars c hc).1;omega⟩,fun c hc=>(h.files c hc).few hB⟩
theorem GG.short {B:Nat} {g:Graph} (h:GG B g):Short g:=fun c=>by
 unfold O4
 by_cases hc:c < g.length
 ·rw [J60 hc]
  have:=(h.files _ (J66 hc)).len
  show g[c].Files.length≤6
  omega
 ·rw [J80 (by omega)];simp
structure GU (L:Nat) (g:Graph):Prop where
 up:∀c p:Nat,(p:Int)∈F1 g c→p < c
 nice:∀c∈g,c.Parents.Nodup∧0≤c.Date∧c.Date≤5
 tree:∀c∈g,GN L c.Files
theorem GU.valid {B L:Nat} {g:Graph} (h:GG B g) (hB:B≤1048576) (hL:L≤2111) (hw:OneWay g) (hn:∀c∈g,c.Parents.Nodup∧0≤c.Date∧c.Date≤5) (ht:∀c∈g,GN L c.Files):GV g where
 len:=h.len
 pars:=fun c hc=>⟨(h.pars c hc).1,(h.pars c hc).2,hn c hc⟩
 way:=hw
 files:=fun c hc=>⟨(ht c hc).mono hL,fun f hf=>by have:=((h.files c hc).all f hf).2;omega⟩
end Go.Proofs.YtkahafmcmiiolaaGreatDoor
