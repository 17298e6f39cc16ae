/- Walks of the program's functions. -/
import Derived.Test.YtkahafmcmiiolaaGreatDoorFe
import Derived.Test.YtkahafmcmiiolaaGreatDoorFd
import Derived.Test.YtkahafmcmiiolaaGreatDoorFs
import Derived.Test.YtkahafmcmiiolaaGreatDoorFa
set_option linter.unusedSimpArgs false
namespace Go.Proofs.YtkahafmcmiiolaaGreatDoor
open Go Go.AL
set_option maxRecDepth 100000
set_option maxHeartbeats 2000000
theorem GG.mono {B B':Nat} {g:Graph} (h:GG B g) (hB:B≤B'):GG B' g:=⟨h.len,h.pars,fun c hc=>(h.files c hc).mono hB⟩
set_option maxHeartbeats 2000000
theorem D15 (a:List Int) (ha:a.length≤1099511627776):FnOk Tryz.prog 23 [L1 a,L1 a] (fun rs=>rs=[J2 true]):=by
 refine FnOk.intro Tryz.func23 (by decide) J J J J ?_
 refine k2 (A2 (A6 J J (A4 ?_)));refine k1 (k2 (k2 (A2 (A3 J J (F3 J J (A3 J J (F3 J J (A5 (T9 J J) J (A4 ?_)))))))));refine k1 ?_;refine B0 rfl (fun ht=>?_) (fun ht=>?_)
 ·exact absurd rfl (A0 ht)
 refine k5 (k1 (k2 (k2 (A2 (A6 J J (A4 ?_))))));refine k1 (k3 (D6 (X:=Nat) (fun i=>([(0,D5 Int 1 F0 a),(1,D5 Int 1 F0 a),(5,C3 i)],[])) (fun i=>i≤a.length) (fun i=>a.length - i) 0 (Nat.zero_le _) (Sees.of ⟨le1 rfl,le1 rfl,le1 rfl,trivial⟩ trivial) ?_))
 intro i hi
 dsimp only at hi ⊢
 refine k2 (k2 (A2 (A3 J J (A3 J J (F3 J J (G7 J J J (A4 ?_)))))));refine k1 ?_;refine B0 rfl (fun ht=>?_) (fun ht=>?_)
 ·have hlt:i < a.length:=by have:=A0 ht;omega
  have hv:=getI hlt
  refine k5 (k1 (k2 (k3 (k2 (F5 (by kernel_rfl) (by kernel_rfl) (F9 J J (F9 J J (B5 (B3 J (.pure _ _ _ _) J (by omega) hv) J J (B5 (B1 J J) J J (F9 J J (F9 J J (B5 (B3 J (.pure _ _ _ _) J (by omega) hv) J J (B5 (B1 J J) J J (B5 (T9 J J) J J (R1 ?_)))))))))))))));refine k1 ?_;refine B0 rfl (fun ht=>?_) (fun ht=>?_)
  ·exact absurd rfl (A0 ht)
  refine k5 (k4 (k1 (A2 (A3 J J (E4 J J J (A6 J J (A4 ?_)))))));refine k1 ?_
  exact ⟨i+1,by omega,by omega,Sees.of ⟨le1 rfl,le1 rfl,le1 rfl,trivial⟩ trivial⟩
 ·refine k6 (k2 (A2 (A6 J J (A4 ?_))));refine k1 (k10 ?_)
  exact B7 (rs:=[J2 true]) (I4 rfl rfl rfl) rfl
abbrev g0:Graph:=[⟨[],0,[⟨[120],[97,97]⟩]⟩]
set_option maxHeartbeats 2000000
abbrev rexF (A:AL.Auto) (x:Str × Str):Bool:=decide (0 < (A54 (x3 A) x.1 x.2).length)
theorem D50 {l:List File} (h:G5 l=0) (p:Str):K9 (A50 l p)=0:=by
 unfold A50
 cases hf:K3 l p with
 | none=>decide
 | some x =>
  obtain ⟨y,hy,_,rfl⟩:=A14 hf
  exact (p9 h).2.2.1 y hy
theorem G75:G5 []=0:=by decide
theorem D51 {g:Graph} (h:Valid g) (c:Nat):G5 (O4 g c)=0:=by
 unfold O4
 by_cases hc:c < g.length
 ·rw [J60 hc]
  exact h.tree _ (J66 hc)
 ·rw [J80 (by omega)];exact G75
theorem G76 {g:Graph} (h:Valid g) {c:Nat} {x:Str × Str} (hx:x∈(O2 g c).flatten):K9 x.1=0∧K9 x.2=0:=by
 obtain ⟨l,hl,hxl⟩:=List.mem_flatten.1 hx
 obtain ⟨t,ht,rfl⟩:=List.mem_map.1 hl
 obtain ⟨d,_,rfl⟩:=List.mem_map.1 hxl
 refine ⟨D50 ?_ _,D50 (D51 h c) _⟩
 unfold O5 at ht
 split at ht
 ·rw [List.mem_singleton.1 ht];exact G75
 ·obtain ⟨p,_,rfl⟩:=List.mem_map.1 ht
  exact D51 h _
theorem H65 (g:Graph) (s:Int) (p:Str) (A:AL.Auto) (hA:AG A) (hF:FewT g) (hS:Short g) (hc:FnOk Tryz.prog 24 [M1 p] (fun rs=>rs=[A21 A,G1 0])) :
  FnOk Tryz.prog 8 [P1 g,G1 s,M1 p] (fun rs=>rs=[L1 (S6 (rexF A) g s).1,G1 (S6 (rexF A) g s).2]):=by
 have hP:=D46 g s 26 Unit 2 (E44 A) () (rexF A) hF hS (fun hv c _ x hx=>by
  obtain ⟨h1,h2⟩:=G76 hv hx
  exact G71 A hA x.1 x.2 h1 h2)
 obtain ⟨R,hR⟩:∃R,R=S6 (rexF A) g s:=⟨_,rfl⟩
 rw [←hR] at hP ⊢
 refine FnOk.intro Tryz.func8 (by decide) J J J J ?_
 refine k2 (A2 (A5 (I7 _ 1 F0) J (A6 J J (A4 ?_))));refine k1 (k2 (A2 (A3 J J (D8 (hc) J J J ?_))));rintro _ rfl;refine A3 J J (H5 J J J (H5 J J J (D2 (I9 8 J) J (H7 (C4 TySz.out J J J J J J) (A6 J J (A4 ?_))))));refine k1 (k2 (k2 (A2 (A3 J J (A5 (T9 J J) J (A4 ?_))))));refine k1 ?_;refine B0 rfl (fun ht=>?_) (fun ht=>?_)
 ·cases ht
 refine k5 (k1 (k2 (D9 (J51 (t:=8) (k:=8) (cs:=[Cell.list AL.State 7 A20 A.States,Cell.v (.int .i64 A.Start)]) J J J J) ?_)))
 refine A2 (A3 J J (A3 J J (A5 (D38 J) J (A77 (hP) J J J J ?_))));rintro _ _ ⟨rfl,rfl⟩;refine ⟨rfl,?_⟩;refine H5 J J J (H5 J J J (A6 J J (A6 J J (A4 ?_))));refine k1 (k10 ?_)
 exact B7 (rs:=[L1 R.1,G1 R.2]) (l9 rfl rfl rfl rfl rfl) rfl
theorem H66 (a b p:Str) (A:AL.Auto) (hA:AG A) (ha:K9 a=0) (hb:K9 b=0) (hc:FnOk Tryz.prog 24 [M1 p] (fun rs=>rs=[A21 A,G1 0])) :
  FnOk Tryz.prog 14 [M1 a,M1 b,M1 p] (fun rs=>rs=[B91 (A54 (x3 A) a b),G1 0]):=by
 refine FnOk.intro Tryz.func14 (by decide) J J J J ?_
 refine k2 (A2 (A5 (I7 _ 1 P5) J (A6 J J (A4 ?_))));refine k1 (k2 (A2 (A3 J J (D8 (hc) J J J ?_))));rintro _ rfl;refine A3 J J (H5 J J J (H5 J J J (D2 (I9 8 J) J (H7 (C4 TySz.out J J J J J J) (A6 J J (A4 ?_))))));refine k1 (k2 (k2 (A2 (A3 J J (A5 (T9 J J) J (A4 ?_))))));refine k1 ?_;refine B0 rfl (fun ht=>?_) (fun ht=>?_)
 ·cases ht
 refine k5 (k1 (k2 (A2 (A5 (U1 J J J) J (A3 J J (A3 J J (D8 (C61 A hA a b ha hb) J J J ?_)))))));rintro _ rfl;refine H5 J J J (H5 J J J (A6 J J (A6 J J (A4 ?_))));refine k1 (k10 ?_)
 exact B7 (rs:=[B91 (A54 (x3 A) a b),G1 0]) (l9 rfl rfl rfl rfl rfl) rfl
abbrev autoW:AL.Auto:=⟨[⟨4,⟨0,0,0,0⟩,0,0⟩,⟨3,⟨0,0,0,0⟩,0,0⟩,⟨1,⟨0,0,0,0⟩,3,1⟩,⟨0,⟨0,8589934592,0,0⟩,2,0⟩,⟨0,⟨0,8589934592,0,0⟩,2,0⟩,⟨2,⟨0,0,0,0⟩,4,0⟩],5⟩
theorem G77:FnOk Tryz.prog 24 [M1 pat4] (fun rs=>rs=[A21 autoW,G1 0]) :=
 D48 pat4 D11 autoW I56 (E43 D11 autoW.States 5 20 (by kernel_rfl) (by decide) (by rw [show topW D11=5 by kernel_rfl];decide) (by kernel_rfl) (by decide))
abbrev bb:Str:=[97,97]
abbrev g1:Graph:=[⟨[],0,[⟨[120],bb⟩]⟩]
theorem H67:FewT g1:=⟨⟨by decide,by decide⟩,fun c hc=>by rw [List.mem_singleton.1 hc];exact ⟨by decide,by decide,by decide⟩⟩
theorem E48:Short g1:=fun c=>by
 unfold O4
 cases c with
 | zero=>decide
 | succ c=>simp
theorem scr_bb:A53 [] [bb]=[⟨0,0,0,1⟩]:=by
 unfold A53
 rw [show L5 (G9 [[],[bb]]) []=[] by kernel_rfl,show L5 (G9 [[],[bb]]) [bb]=[0] by kernel_rfl]
 unfold B60
 rw [V1]
 rfl
theorem rex_bb:rexF autoW ([],bb)=true:=by
 show decide (0 < (P9 (x3 autoW) (F8 []) (F8 bb) (A53 (F8 []) (F8 bb))).length)=true
 rw [show F8 []=[] by kernel_rfl,show F8 bb=[bb] by kernel_rfl,scr_bb]
 kernel_rfl
theorem I68:S6 (rexF autoW) g1 0=([0],0):=by
 have h0:X8 g1 0=([0],0):=by kernel_rfl
 have h1:O2 g1 0=[[([],bb)]]:=by kernel_rfl
 unfold S6
 rw [h0,if_neg (fun e=>e rfl)]
 simp only [K04,List.filter_nil,Z8,Int.toNat_zero,h1,List.any_cons,List.any_nil,rex_bb,Bool.or_false,if_true]
theorem lit1:o3 g1 0 [97]=([0],0):=by kernel_rfl
theorem cnt1:o4 g1 0 [97]=([2],0):=by kernel_rfl
theorem I69:FnOk Tryz.prog 6 [] (fun rs=>rs=[J2 true]):=by
 have hL:=G66 g1 0 [97] H67 E48 (by decide)
 have hC:=H52 g1 0 [97] H67 E48 (by decide)
 have hR:=H65 g1 0 pat4 autoW (ag_of (by kernel_rfl)) H67 E48 G77
 rw [lit1] at hL
 rw [cnt1] at hC
 rw [I68] at hR
 refine FnOk.intro Tryz.func6 (by decide) J J J J ?_
 refine k2 (A2 (A6 J J (A4 ?_)));refine k1 (k2 (A2 (A5 (I8 J) J (A5 (D1 (c:=y1) (ys:=[(⟨[120],[97,97]⟩:File)]) (E5 J J J J H1) J J J) J (A5 (I8 J) J (C96 ((J42 Int 1 F0 10 0 J J)) (A5 (D1 (c:=J5) (ys:=g1) (E5 J J J J H1) J J J) J (A6 J J (A4 ?_)))))))));refine k1 (k2 (A2 (A3 J J (D8 (hL) J J J ?_))));rintro _ rfl;refine A3 J J (H5 J J J (H5 J J J (A6 J J (A6 J J (A4 ?_)))));refine k1 (k2 (A2 (A3 J J (D8 (hR) J J J ?_))));rintro _ rfl;refine A3 J J (H5 J J J (H5 J J J (A6 J J (A6 J J (A4 ?_)))));refine k1 (k2 (A2 (A3 J J (D8 (hC) J J J ?_))));rintro _ rfl;refine A3 J J (H5 J J J (H5 J J J (A6 J J (A6 J J (A4 ?_)))));refine k1 (k2 (A2 (A3 J J (A5 (F4 J J) J (A3 J J (G6 J J J J (A3 J J (G6 J J J J (A5 (F4 J J) J (A5 (O8 J (rfl) J) J (A3 J J (G6 J J J J (A3 J J (G6 J J J J (A5 (F4 J J) J (A5 (O8 J (rfl) J) J (A3 J J (G6 J J J J (A3 J J (G6 J J J J (A5 (D1 (c:=F0) (ys:=[(0:Int)]) (E5 J J J J H1) J J J) J (G6 J J J J (D8 (D15 [0] (by decide)) J J J ?_)))))))))))))))))))))));rintro _ rfl;refine A5 (O8 J (rfl) J) J (A3 J J (G6 J J J J (A3 J J (G6 J J J J (A5 (D1 (c:=F0) (ys:=[(0:Int)]) (E5 J J J J H1) J J J) J (G6 J J J J (D8 (D15 [0] (by decide)) J J J ?_)))))));rintro _ rfl;refine A5 (O8 J (rfl) J) J (A3 J J (G6 J J J J (A3 J J (G6 J J J J (A5 (D1 (c:=F0) (ys:=[(2:Int)]) (E5 J J J J H1) J J J) J (G6 J J J J (D8 (D15 [2] (by decide)) J J J ?_)))))));rintro _ rfl;refine A5 (O8 J (rfl) J) J (A6 J J (A4 ?_));refine k1 (k10 ?_)
 exact B7 (rs:=[J2 true]) (I4 rfl rfl rfl) rfl
set_option maxHeartbeats 2000000
theorem F29 (s:Str) (hs:s.length≤1099511627776):FnOk Tryz.prog 16 [M1 s] (fun rs=>rs=[M1 (R4 s)]):=by
 refine FnOk.intro Tryz.func16 (by decide) J J J J ?_
 refine k2 (A2 (A6 J J (A4 ?_)));refine k1 (k2 (k2 (A2 (A3 J J (D8 (J01 s hs) J J J ?_)))));rintro _ rfl;refine A4 ?_;refine k1 ?_;refine B0 rfl (fun ht=>?_) (fun ht=>?_)
 ·have hne:s≠[]:=fun e=>by rw [e] at ht;cases ht
  have hpos:0 < s.length:=List.length_pos_iff.2 hne
  refine k2 (A2 (A3 J J (A3 J J (A5 (N2 J) J (A5 (K1 J J (by omega)) J (A5 (D86 J J (by omega) (by omega)) J (A6 J J (A4 ?_))))))));refine k1 (k10 (k11 (B7 (I4 J J J) ?_)))
  rw [show R4 s=s.dropLast by unfold R4;rw [if_pos ht],List.dropLast_eq_take,show ((s.length:Int) - 1).toNat=s.length - 1 by omega]
 ·refine k5 (k1 (k2 (A2 (A3 J J (A6 J J (A4 ?_))))));refine k1 (k10 ?_)
  exact B7 (rs:=[M1 s]) (I4 rfl rfl rfl) (by unfold R4;rw [ht];rfl)
abbrev wordsW:List Str:=[[97],[98],[99],[97,98]]
abbrev chW (c:Nat):AL.Auto:=⟨[⟨4,set0,0,0⟩,⟨3,set0,0,0⟩,⟨0,set0.with_ c,1,0⟩,⟨2,set0,2,0⟩],3⟩
abbrev chAB:AL.Auto:=⟨[⟨4,set0,0,0⟩,⟨3,set0,0,0⟩,⟨0,set0.with_ 98,1,0⟩,⟨0,set0.with_ 97,2,0⟩,⟨2,set0,3,0⟩],4⟩
theorem kids_of {L:List AL.Node} (h:(L.all fun n=>decide (n.Kids.length≤4000))=true):∀n∈L,n.Kids.length≤4000:=fun n hn=>A0 (List.all_eq_true.1 h n hn)
theorem A40 (p:Str) (A:AL.Auto) (hsim:∀c∈p,j1 c=true) (hp:p.length≤256) (hc:B19 (A82 p)=0) (hk:((A82 p).all fun n=>decide (n.Kids.length≤4000))=true) (hw:decide (topW (A82 p)≤4000)=true) (hb:T0 (A82 p) (V4 (A82 p)) 20 (((A82 p).length:Int) - 1) 0 [⟨4,⟨0,0,0,0⟩,0,0⟩]=some (A.States,A.Start)) (hst:A.States.length≤20000) :
  FnOk Tryz.prog 24 [M1 p] (fun rs=>rs=[A21 A,G1 0]) :=
 D48 p (A82 p) A (I67 p hsim hp) (E43 (A82 p) A.States A.Start 20 hc (kids_of hk) (A0 hw) hb hst)
theorem whole4 (i:Int) (h:0≤i∧i < 4):∃(w:Str) (A:AL.Auto),wordsW[i.toNat]?=some w∧w.length≤2∧ChainA A w∧FnOk Tryz.prog 24 [M1 ([94]++w++[36])] (fun rs=>rs=[A21 A,G1 0]):=by
 obtain ⟨k,rfl⟩:∃k:Nat,i=(k:Int):=⟨i.toNat,by omega⟩
 rw [J62]
 have hk:k < 4:=by omega
 match k,hk with
 | 0,_=>exact ⟨[97],chW 97,rfl,by decide,C89 (by kernel_rfl),A40 [94,97,36] (chW 97) (by decide) (by decide) (by kernel_rfl) (by kernel_rfl) (by kernel_rfl) (by kernel_rfl) (by decide)⟩
 | 1,_=>exact ⟨[98],chW 98,rfl,by decide,C89 (by kernel_rfl),A40 [94,98,36] (chW 98) (by decide) (by decide) (by kernel_rfl) (by kernel_rfl) (by kernel_rfl) (by kernel_rfl) (by decide)⟩
 | 2,_=>exact ⟨[99],chW 99,rfl,by decide,C89 (by kernel_rfl),A40 [94,99,36] (chW 99) (by decide) (by decide) (by kernel_rfl) (by kernel_rfl) (by kernel_rfl) (by kernel_rfl) (by decide)⟩
 | 3,_=>exact ⟨[97,98],chAB,rfl,by decide,C89 (by kernel_rfl),A40 [94,97,98,36] chAB (by decide) (by decide) (by kernel_rfl) (by kernel_rfl) (by kernel_rfl) (by kernel_rfl) (by decide)⟩
theorem E49 {q:Str→Bool} {x:List Str} {i:Nat} {s:Str} (h:x[i]?=some s):(x.take (i+1)).countP q=(x.take i).countP q+(if q s=true then 1 else 0):=by
 rw [F90 h,List.countP_append,List.countP_cons,List.countP_nil];omega
theorem D80 (raw:List Int) (k:Int):FnOk Tryz.prog 4 [L1 raw,G1 k] (fun rs=>rs=[J2 true]):=by
 have hkm:=A78 k (n:=4) (by omega)
 have hmod:=F73 k 4 (by omega) (by omega)
 obtain ⟨w,A,hvw,hwl,hch,hcomp⟩:=whole4 (t7 k 4) hkm
 obtain ⟨a,ha⟩:∃a,a=D06 raw 0 6 4:=⟨_,rfl⟩
 obtain ⟨b,hb⟩:∃b,b=E26 a raw 100:=⟨_,rfl⟩
 have ha1:a.length≤24:=by rw [ha];have:=H22 raw 0 6 4 (by omega);omega
 have hb1:b.length≤120:=by
  rw [hb]
  have h1:=A99 raw 100 (F8 a) 0 []
  have h2:=X2 a
  have h3:=(H78 a).1
  unfold E26
  simp only [J68] at h1
  omega
 have ha2:=X2 a
 have hb2:=X2 b
 have hca:K9 a=0:=by unfold K9;rw [if_neg (by omega)]
 have hcb:K9 b=0:=by unfold K9;rw [if_neg (by omega)]
 have hL:=H66 a b ([94]++w++[36]) A hch.ag hca hcb hcomp
 have hh:x3 A=fun t=>decide (t=w):=by
  funext t
  have h1:=I89 hch t
  rw [Bool.eq_iff_iff,decide_eq_true_eq]
  exact h1
 have hmo:A54 (x3 A) a b=P9 (fun t=>decide (t=w)) (F8 a) (F8 b) (A53 (F8 a) (F8 b)):=by rw [hh];rfl
 rw [hmo] at hL
 obtain ⟨x,hx⟩:∃x,x=F8 a:=⟨_,rfl⟩
 obtain ⟨y,hy⟩:∃y,y=F8 b:=⟨_,rfl⟩
 have hxs:∀s∈x,s.length≤1000:=fun s hs=>by rw [hx] at hs;have:=C73 _ _ hs;omega
 have hys:∀s∈y,s.length≤1000:=fun s hs=>by rw [hy] at hs;have:=C73 _ _ hs;omega
 have hla:=E22 a (by omega)
 have hlb:=E22 b (by omega)
 rw [←hx] at hL ha2 hla
 rw [←hy] at hL hb2 hlb
 obtain ⟨r,ad,hl1,hl2⟩:=I91 (fun t=>decide (t=w)) (x:=x) (y:=y) (by omega) (by omega)
 have hms:=fun s=>I90 (h:=fun t=>decide (t=w)) (x:=x) (y:=y) (l:=A53 x y) (s:=s)
 have hml:=B67 (fun t=>decide (t=w)) x y (A53 x y)
 have hsl:=(F52 x y).1
 obtain ⟨M,hM⟩:∃M,M=P9 (fun t=>decide (t=w)) x y (A53 x y):=⟨_,rfl⟩
 rw [←hM] at hL hl1 hms hml
 have hMl:M.length≤121*144:=Nat.le_trans hml (Nat.mul_le_mul (by omega) (by omega))
 obtain ⟨q,hq⟩:∃q:Str→Bool,q=fun s=>decide (R4 s=w):=⟨_,rfl⟩
 have hl2:x.countP q+ad=y.countP q+r:=by rw [hq];exact hl2
 have hbl:=blob_ok raw 0 6 4 (by omega) (by omega) (by omega)
 have hnr:=near_ok a raw 100 (by omega) (by omega)
 rw [←ha] at hbl
 rw [←hb] at hnr
 have hcx:x.countP q≤x.length:=List.countP_le_length
 have hcy:y.countP q≤y.length:=List.countP_le_length
 refine FnOk.intro Tryz.func4 (by decide) J J J J ?_
 refine k2 (A2 (A6 J J (A4 ?_)));refine k1 (k2 (A2 (A3 J J (D8 (hbl) J J J ?_))));rintro _ rfl;refine A6 J J (A4 ?_);refine k1 (k2 (A2 (A3 J J (A3 J J (D8 (hnr) J J J ?_)))));rintro _ rfl;refine A6 J J (A4 ?_);refine k1 (k2 (A2 (A5 (D1 (c:=P5) (ys:=wordsW) (E5 J J J J (E5 J J J J (E5 J J J J (E5 J J J J H1)))) J J J) J (A3 J J (D8 (hmod) J J J ?_)))));rintro _ rfl;refine A5 (B3 J (.pure _ _ _ _) J (by omega) hvw) J (A5 (B1 J J) J (A6 J J (A4 ?_)));refine k1 (k2 (A2 (A3 J J (A3 J J (A3 J J (A5 (A25 J J (by simp;omega)) J (A5 (A25 J J (by simp;omega)) J (D8 (hL) J J J ?_))))))));rintro _ rfl;refine A3 J J (H5 J J J (H5 J J J (A6 J J (A6 J J (A4 ?_)))));refine k1 (k2 (k2 (A2 (A3 J J (A5 (T9 J J) J (A4 ?_))))));refine k1 ?_;refine B0 rfl (fun ht=>?_) (fun ht=>?_)
 ·cases ht
 refine k5 (k1 (k2 (A2 (A3 J J (D8 (hla) J J J ?_)))));rintro _ rfl;refine A3 J J (D8 (hlb) J J J ?_);rintro _ rfl;refine A6 J J (A6 J J (A4 ?_));refine k1 (k2 (A2 (A6 J J (A4 ?_))));refine k1 (k2 (k2 (A2 (A6 J J (A4 ?_)))));refine k1 (k3 ?_);refine D6 (X:=Nat) (fun i=>([(7,V5 w),(8,D5 Str 1 P5 M),(10,D5 Str 1 P5 x),(11,D5 Str 1 P5 y),(12,C3 (-((x.take i).countP q:Int))),(13,C3 i)],[])) (fun i=>i≤x.length) (fun i=>x.length - i) 0 (Nat.zero_le _) ?_ ?_
 ·dsimp only
  rw [List.take_zero,List.countP_nil,show -((0:Nat):Int)=0 by rfl]
  exact Sees.of ⟨le1 rfl,le1 rfl,le1 rfl,le1 rfl,le1 rfl,le1 rfl,trivial⟩ trivial
 intro i hi
 have hct:(x.take i).countP q≤(x.take i).length:=List.countP_le_length
 rw [J70] at hct
 dsimp only at hi ⊢
 refine k2 (k2 (A2 (A3 J J (A3 J J (F3 J J (G7 J J J (A4 ?_)))))));refine k1 ?_;refine B0 rfl (fun ht=>?_) (fun ht=>?_)
 ·have hlt:i < x.length:=by have:=A0 ht;omega
  obtain ⟨s,hs⟩:∃s,s=x[i]:=⟨_,rfl⟩
  have hv:x[i]?=some s:=by rw [hs];simp [hlt]
  have hsl:=hxs s (J69 hv)
  have hnx:=E49 (q:=q) hv
  refine k5 (k1 (k2 (k3 (k2 (A2 (A3 J J (A3 J J (A5 (B3 J (.pure _ _ _ _) J (by omega) hv) J (A5 (B1 J J) J (D8 (F29 s (by omega)) J J J ?_))))))))));rintro _ rfl;refine A3 J J (A5 (A90 J J) J (A4 ?_));refine k1 ?_;refine B0 rfl (fun ht=>?_) (fun ht=>?_)
  ·have hqs:q s=true:=by rw [hq];exact ht
   rw [if_pos hqs] at hnx
   skip
   refine A2 (A3 J J (A5 (K1 J J (by omega)) J (A6 J J (A4 ?_))));refine k4 (k1 (A2 (A3 J J (E4 J J J (A6 J J (A4 ?_))))));refine k1 ?_;refine ⟨i+1,by omega,by omega,?_⟩
   (try dsimp only)
   rw [hnx,show -(((x.take i).countP q+1:Nat):Int) = -((x.take i).countP q:Int) - 1 by omega]
   exact Sees.of ⟨le1 rfl,le1 rfl,le1 rfl,le1 rfl,le1 rfl,le1 rfl,trivial⟩ trivial
  ·have hqs:¬q s=true:=fun h=>by
    rw [hq] at h
    exact A1 ht (A0 h)
   rw [if_neg hqs,Nat.add_zero] at hnx
   refine k5 (k4 (k1 (A2 (A3 J J (E4 J J J (A6 J J (A4 ?_)))))));refine k1 ?_;refine ⟨i+1,by omega,by omega,?_⟩
   (try dsimp only)
   rw [hnx]
   exact Sees.of ⟨le1 rfl,le1 rfl,le1 rfl,le1 rfl,le1 rfl,le1 rfl,trivial⟩ trivial
 have hie:i=x.length:=by have:=A1 ht;omega
 rw [hie,J67]
 refine k6 (k2 (k2 (A2 (A6 J J (A4 ?_)))));refine k1 (k3 ?_);refine D6 (X:=Nat) (fun i=>([(7,V5 w),(8,D5 Str 1 P5 M),(11,D5 Str 1 P5 y),(12,C3 (((y.take i).countP q:Int) - (x.countP q:Int))),(14,C3 i)],[])) (fun i=>i≤y.length) (fun i=>y.length - i) 0 (Nat.zero_le _) ?_ ?_
 ·dsimp only
  rw [List.take_zero,List.countP_nil,show ((0:Nat):Int) - (x.countP q:Int) = -(x.countP q:Int) by omega]
  exact Sees.of ⟨le1 rfl,le1 rfl,le1 rfl,le1 rfl,le1 rfl,trivial⟩ trivial
 intro i hi
 have hct:(y.take i).countP q≤(y.take i).length:=List.countP_le_length
 rw [J70] at hct
 dsimp only at hi ⊢
 refine k2 (k2 (A2 (A3 J J (A3 J J (F3 J J (G7 J J J (A4 ?_)))))));refine k1 ?_;refine B0 rfl (fun ht=>?_) (fun ht=>?_)
 ·have hlt:i < y.length:=by have:=A0 ht;omega
  obtain ⟨s,hs⟩:∃s,s=y[i]:=⟨_,rfl⟩
  have hv:y[i]?=some s:=by rw [hs];simp [hlt]
  have hsl:=hys s (J69 hv)
  have hnx:=E49 (q:=q) hv
  refine k5 (k1 (k2 (k3 (k2 (A2 (A3 J J (A3 J J (A5 (B3 J (.pure _ _ _ _) J (by omega) hv) J (A5 (B1 J J) J (D8 (F29 s (by omega)) J J J ?_))))))))));rintro _ rfl;refine A3 J J (A5 (A90 J J) J (A4 ?_));refine k1 ?_;refine B0 rfl (fun ht=>?_) (fun ht=>?_)
  ·have hqs:q s=true:=by rw [hq];exact ht
   rw [if_pos hqs] at hnx
   skip
   refine A2 (A3 J J (E4 J J J (A6 J J (A4 ?_))));refine k4 (k1 (A2 (A3 J J (E4 J J J (A6 J J (A4 ?_))))));refine k1 ?_;refine ⟨i+1,by omega,by omega,?_⟩
   (try dsimp only)
   rw [hnx,show (((y.take i).countP q+1:Nat):Int) - (x.countP q:Int)=((y.take i).countP q:Int) - (x.countP q:Int)+1 by omega]
   exact Sees.of ⟨le1 rfl,le1 rfl,le1 rfl,le1 rfl,le1 rfl,trivial⟩ trivial
  ·have hqs:¬q s=true:=fun h=>by
    rw [hq] at h
    exact A1 ht (A0 h)
   rw [if_neg hqs,Nat.add_zero] at hnx
   refine k5 (k4 (k1 (A2 (A3 J J (E4 J J J (A6 J J (A4 ?_)))))));refine k1 ?_;refine ⟨i+1,by omega,by omega,?_⟩
   (try dsimp only)
   rw [hnx]
   exact Sees.of ⟨le1 rfl,le1 rfl,le1 rfl,le1 rfl,le1 rfl,trivial⟩ trivial
 have hie:i=y.length:=by have:=A1 ht;omega
 rw [hie,J67]
 obtain ⟨n,hn⟩:∃n:Int,n=(y.countP q:Int) - (x.countP q:Int):=⟨_,rfl⟩
 rw [←hn]
 refine k6 (k2 (k2 (A2 (A6 J J (A4 ?_)))));refine k1 (k3 (D6 (X:=Nat) (fun i=>([(7,V5 w),(8,D5 Str 1 P5 M),(12,C3 n),(15,C3 i)],[])) (fun i=>i≤M.length) (fun i=>M.length - i) 0 (Nat.zero_le _) (Sees.of ⟨le1 rfl,le1 rfl,le1 rfl,le1 rfl,trivial⟩ trivial) ?_))
 intro i hi
 dsimp only at hi ⊢
 refine k2 (k2 (A2 (A3 J J (A3 J J (F3 J J (G7 J J J (A4 ?_)))))));refine k1 ?_;refine B0 rfl (fun ht=>?_) (fun ht=>?_)
 ·have hlt:i < M.length:=by have:=A0 ht;omega
  obtain ⟨s,hs⟩:∃s,s=M[i]:=⟨_,rfl⟩
  have hv:M[i]?=some s:=by rw [hs];simp [hlt]
  have hsw:s=w:=A0 (hms s (J69 hv))
  refine k5 (k1 (k2 (k3 (k2 (A2 (A3 J J (A3 J J (A5 (B3 J (.pure _ _ _ _) J (by omega) hv) J (A5 (B1 J J) J (A3 J J (A5 (D85 J J) J (A4 ?_))))))))))));refine k1 ?_;refine B0 rfl (fun ht=>?_) (fun ht=>?_)
  ·exfalso
   rw [hsw] at ht
   simp at ht
  refine k5 (k4 (k1 (A2 (A3 J J (E4 J J J (A6 J J (A4 ?_)))))));refine k1 ?_
  exact ⟨i+1,by omega,by omega,Sees.of ⟨le1 rfl,le1 rfl,le1 rfl,le1 rfl,trivial⟩ trivial⟩
 have htm:((M.length:Int) - n).tmod 2=0:=by
  rw [show (M.length:Int) - n=2*(r:Int) by omega]
  exact Int.mul_tmod_right ..
 have d1:n≤(M.length:Int):=by omega
 have dd:decide (IntKind.i64.wrap (0 - n)≤(M.length:Int))=true:=by
  rw [D32 (n:=0 - n) (by omega)]
  exact decide_eq_true (by omega)
 have d3:decide (((M.length:Int) - n).tmod 2=0)=true:=decide_eq_true htm
 refine k6 (k2 (A2 (A3 J J (F3 J J (A3 J J (A5 (U8 J J) J (A3 J J (G6 J J J (decide_eq_true d1) (A3 J J (G6 J J J (decide_eq_true d1) (F3 J J (G6 J J J (decide_eq_true d1) (A3 J J (G6 J J J (decide_eq_true d1) (A5 (n_neg_w J) J (G6 J J J (decide_eq_true d1) (A5 (U8 J J) J (A5 (O8 J ((decide_eq_true d1)) J) J (A3 J J (G6 J J J dd (A3 J J (G6 J J J dd (F3 J J ?_)))))))))))))))))))))));refine G6 J J J dd (A3 J J (G6 J J J dd (A5 (K1 J J (by omega)) J (G6 J J J dd (A5 (D31 J J (by decide)) J (G6 J J J dd (A5 (F4 J J) J (A5 (O8 J (dd) J) J (A3 J J (G6 J J J d3 (D8 (I69) J J J ?_)))))))))));rintro _ rfl;refine A5 (O8 J (d3) J) J (A6 J J (A4 ?_));refine k1 (k10 ?_)
 exact B7 (rs:=[J2 true]) (I4 rfl rfl rfl) rfl
end Go.Proofs.YtkahafmcmiiolaaGreatDoor
