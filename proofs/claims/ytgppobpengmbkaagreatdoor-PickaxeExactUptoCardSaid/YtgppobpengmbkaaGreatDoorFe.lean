/- Walks of the program's functions. -/
import Derived.Test.YtgppobpengmbkaaGreatDoorFd
set_option linter.unusedSimpArgs false
namespace Go.Proofs.YtgppobpengmbkaaGreatDoor
open Go Go.AL
set_option maxRecDepth 100000
set_option maxHeartbeats 2000000
theorem D17 {f:Int→Bool} {O:List Int} {k:Nat} {c:Int} (h:O[k]?=some c):(O.take (k+1)).filter f=(O.take k).filter f++(if f c=true then [c] else []):=by
 rw [C39 h,J67]
 congr 1
 cases hf:f c<;>simp [hf]
theorem H19 {f:Int→Bool} {O:List Int} {k:Nat} {c:Int} (h:O[k]?=some c) (hf:f c=true):(O.filter f)[((O.take k).filter f).length]?=some c:=by
 have e:O.filter f=(O.take k).filter f++(O.drop k).filter f:=by rw [←J67,J53]
 obtain ⟨hlt,hc⟩:=List.getElem?_eq_some_iff.1 h
 rw [e,J30 (Nat.le_refl _),J61,J24 hlt,hc,J66,if_pos hf]
 rfl
theorem G27 {α:Type} {f:α→Bool} {l:List α} {i:Nat} {x:α} (h:l[i]?=some x):(l.take (i+1)).any f=((l.take i).any f||f x):=by
 rw [C39 h,J60,List.any_cons,List.any_nil,Bool.or_false]
theorem G28 {g:Graph} (h:GV g) {l:List File} (hl:(∃c,l=K5 g c)∨l=[]) (p:Str):(L0 l p).length≤16777216:=by
 unfold L0
 cases hf:H8 l p with
 | none=>simp
 | some x =>
  obtain ⟨y,hy,_,rfl⟩:=A12 hf
  rcases hl with ⟨c,rfl⟩ | rfl
  ·unfold K5 at hy
   by_cases hc:c < g.length
   ·rw [J15 hc] at hy
    have:=(h.files _ (J18 hc)).2 y hy
    show y.Blob.length≤_
    omega
   ·rw [J34 (by omega)] at hy;cases hy
  ·cases hy
theorem I80 {g:Graph} {c:Nat} {t:List File} (h:t∈K9 g c):(∃d,t=K5 g d)∨t=[]:=by
 unfold K9 at h
 split at h
 ·exact .inr (List.mem_singleton.1 h)
 ·obtain ⟨p,_,rfl⟩:=List.mem_map.1 h
  exact .inl ⟨_,rfl⟩
theorem E86 {g:Graph} (h:GV g) {l:List File} (hl:(∃c,l=K5 g c)∨l=[]):l.length≤4:=by
 rcases hl with ⟨c,rfl⟩ | rfl
 ·unfold K5
  by_cases hc:c < g.length
  ·rw [J15 hc]
   have:=(h.files _ (J18 hc)).1.sub.length_le
   simpa using this
  ·rw [J34 (by omega)];simp
 ·simp
theorem D38 (raw:List Int) (start:Int):FnOk Tryz.prog 3 [I5 raw,F2 start] (fun rs=>rs=[H5 true]):=by
 refine FnOk.intro Tryz.func3 (by decide) V V V V ?_
 refine k2 (A2 (A6 V V (A4 ?_)));refine k1 (k2 (A2 (A3 V V (D3 (I10 raw 6 3 (by omega) (by omega)) V V V ?_))));rintro _ ⟨g,rfl,hg,hv⟩;refine A6 V V (A4 ?_)
 have hF:=hg.few (by decide)
 have hS:=hg.short
 have hgl:=hv.len
 refine k1 (k2 (k2 (A2 (A3 V V (E0 V V (A5 (F7 V V) V (A4 ?_)))))));refine k1 ?_;refine B0 rfl (fun ht=>?_) (fun ht=>?_)
 ·refine k2 (A2 (D3 (E08) V V V ?_));rintro _ rfl;refine A6 V V (A4 ?_);refine k1 (k10 (k11 ?_))
  exact B6 (rs:=[H5 true]) (G7 rfl rfl rfl) rfl
 have hpos:0 < g.length:=by have:=A1 ht;(try dsimp only at this);omega
 have hst:=a8 start (n:=g.length) (by omega)
 refine k5 (k1 (k2 (A2 (A3 V V (A3 V V (E0 V V (D3 (B28 start g.length (by omega) (by omega)) V V V ?_)))))));rintro _ rfl;refine A6 V V (A4 ?_)
 obtain ⟨st,hst'⟩:∃st,st=Y2 start g.length:=⟨_,rfl⟩
 rw [←hst'] at hst ⊢
 refine k1 (k2 (A2 (A3 V V (D3 (I25 raw) V V V ?_))));rintro _ ⟨nm,rfl,hnm⟩;refine A6 V V (A4 ?_)
 have hC:T6 g st:=hst
 have hnm0:nm≠[]:=by intro e;rw [e] at hnm;simp at hnm
 obtain ⟨f,hf⟩:∃f:Int→Bool,f=fun c=>C63 (differs nm) g c.toNat:=⟨_,rfl⟩
 obtain ⟨O,hO⟩:∃O,O=r7 g [st]:=⟨_,rfl⟩
 have hL:Z5 g st nm=(O.filter f,0):=by
  unfold Z5
  rw [if_neg hnm0,if_neg (by omega),F66 (F67 nm) hv hC,←hO,hf]
 have hE:P6 g st=(O,0):=by unfold P6;rw [hv.check,if_neg (fun e=>e rfl),if_pos hC,hO]
 have h1:=D15 g st nm hF hS (by omega)
 have h2:=H98 g st hF.few (rdag_ok g hF)
 have hV:=Y7 hv.check
 rw [hL] at h1
 rw [hE] at h2
 have hOr:=B53 g [st]
 rw [←hO] at hOr
 have hOl:O.length≤g.length:=Y6 hOr.1 hOr.2
 obtain ⟨L,hLe⟩:∃L,L=O.filter f:=⟨_,rfl⟩
 have hLl:L.length≤16:=by rw [hLe];have:=List.length_filter_le f O;omega
 rw [←hLe] at h1
 refine k1 (k2 (A2 (A3 V V (A3 V V (A3 V V (D3 (h1) V V V ?_))))));rintro _ rfl;refine A3 V V (H6 V V V (H6 V V V (A6 V V (A6 V V (A4 ?_)))));refine k1 (k2 (A2 (A3 V V (A3 V V (A5 (C3 (c:=E3) (ys:=[st]) (D4 V V V V F9) V V V) V (D3 (h2) V V V ?_))))));rintro _ rfl;refine A3 V V (H6 V V V (H6 V V V (A6 V V (A6 V V (A4 ?_)))));refine k1 (k2 (k2 (A2 (A3 V V (A5 (Q8 V V) V (A4 ?_))))));refine k1 ?_;refine B0 rfl (fun ht=>?_) (fun ht=>?_)
 ·cases ht
 refine k5 (k1 (k2 (A2 (A6 V V (A4 ?_)))));refine k1 (k2 (A2 (A5 (C3 (c:=Q0) (ys:=names4) (D4 V V V V (D4 V V V V (D4 V V V V (D4 V V V V F9)))) V V V) V (A6 V V (A4 ?_)))));refine k1 (k2 (k2 (A2 (A6 V V (A4 ?_)))));refine k1 (k3 (C5 (X:=Nat) (fun k=>([(5,C6 Commit 3 G1 g),(6,T7 nm),(7,C6 Int 1 E3 L),(9,C6 Int 1 E3 O),(11,C0 ((O.take k).filter f).length),(12,C6 Str 1 Q0 names4),(13,C0 k)],[])) (fun k=>k≤O.length) (fun k=>O.length - k) 0 (Nat.zero_le _) (I90 ⟨le1 rfl,le1 rfl,le1 rfl,le1 rfl,le1 rfl,le1 rfl,le1 rfl,trivial⟩ trivial) ?_))
 intro k hk
 dsimp only at hk ⊢
 refine k2 (k2 (A2 (A3 V V (A3 V V (E0 V V (E8 V V V (A4 ?_)))))));refine k1 ?_;refine B0 rfl (fun ht=>?_) (fun ht=>?_)
 rotate_left
 ·have hke:k=O.length:=by have:=A1 ht;omega
  rw [hke,J23,←hLe]
  refine k6 (k2 (A2 (A3 V V (A3 V V (E0 V V (A5 (F7 V V) V (A3 V V (H0 V V V (decide_eq_true V) (D3 (E08) V V V ?_)))))))));rintro _ rfl;refine A5 (Y1 V ((decide_eq_true V)) V) V (A6 V V (A4 ?_));refine k1 (k10 ?_)
  exact B6 (rs:=[H5 true]) (G7 rfl rfl rfl) rfl
 have hlt:k < O.length:=by have:=A0 ht;omega
 obtain ⟨c,hvk⟩:∃c:Nat,O[k]?=some (c:Int):=by
  refine ⟨O[k].toNat,?_⟩
  have:=hOr.2 O[k] (J18 hlt)
  rw [J15 hlt,Int.toNat_of_nonneg this.1]
 have hcl:c < g.length:=by have:=hOr.2 _ (J32 hvk);omega
 obtain ⟨cm,hcm⟩:∃cm,cm=g[c]:=⟨_,rfl⟩
 have hvc:g[c]?=some cm:=by rw [hcm];simp [hcl]
 have hU:K5 g c=cm.Files:=by unfold K5;rw [hvc];rfl
 obtain ⟨T,hT⟩:∃T,T=K9 g c:=⟨_,rfl⟩
 have htr:=H99 g c hF.few hV.rel hcl
 have hTl:T.length≤4:=by
  rw [hT];unfold K9
  split
  ·simp
  ·rw [J38,S0 hcl];have:=(hv.pars g[c] (J18 hcl)).1;omega
 rw [←hT] at htr
 have hfc:f (c:Int)=T.any fun t=>A37 (differs nm) t cm.Files:=by rw [hf,hT,←hU];rfl
 obtain ⟨n,hn⟩:∃n,n=((O.take k).filter f).length:=⟨_,rfl⟩
 have hUf:(∃d,cm.Files=K5 g d)∨cm.Files=[]:=.inl ⟨c,hU.symm⟩
 have hUl:=E86 hv hUf
 rw [←hn]
 refine k5 (k1 (k2 (k3 (k2 (A2 (A3 V V (A3 V V (A5 (A9 V (.pure _ _ _ _) V (by omega) hvk) V (A5 (A8 V V) V (A6 V V (A4 ?_)))))))))));refine k1 (k2 (A2 (A6 V V (A4 ?_))));refine k1 (k2 (A2 (A3 V V (A3 V V (D3 (htr) V V V ?_)))));rintro _ rfl;refine A6 V V (A4 ?_);refine k1 (k2 (k2 (A2 (A6 V V (A4 ?_)))));refine k1 (k3 (C5 (X:=Nat) (fun p=>([(5,C6 Commit 3 G1 g),(6,T7 nm),(7,C6 Int 1 E3 L),(9,C6 Int 1 E3 O),(11,C0 n),(12,C6 Str 1 Q0 names4),(13,C0 k),(14,C0 c),(15,P2 ((T.take p).any fun t=>A37 (differs nm) t cm.Files)),(16,C6 (List File) 1 l8 T),(17,C0 p)],[])) (fun p=>p≤T.length) (fun p=>T.length - p) 0 (Nat.zero_le _) (I90 ⟨le1 rfl,le1 rfl,le1 rfl,le1 rfl,le1 rfl,le1 rfl,le1 rfl,le1 rfl,le1 rfl,le1 rfl,le1 rfl,trivial⟩ trivial) ?_))
 intro p hp
 dsimp only at hp ⊢
 refine k2 (k2 (A2 (A3 V V (A3 V V (E0 V V (E8 V V V (A4 ?_)))))));refine k1 ?_;refine B0 rfl (fun ht=>?_) (fun ht=>?_)
 rotate_left
 ·have hpe:p=T.length:=by have:=A1 ht;omega
  rw [hpe,J23,←hfc]
  refine k6 (k2 (A2 (A3 V V (A4 ?_))));refine k1 ?_;refine B0 rfl (fun ht=>?_) (fun ht=>?_)
  ·have hg0:=H19 hvk ht
   rw [←hLe,←hn] at hg0
   have hnl:n < L.length:=(List.getElem?_eq_some_iff.1 hg0).1
   refine k2 (k2 (A2 (A3 V V (A3 V V (E0 V V (A5 (W5 V V) V (A3 V V (H0 V V V (decide_eq_false (by omega)) (A3 V V (H0 V V V (decide_eq_false (by omega)) (A3 V V (H0 V V V (decide_eq_false (by omega)) (A5 (A9 V (.pure _ _ _ _) V (by omega) hg0) V (H0 V V V (decide_eq_false (by omega)) (A5 (A8 V V) V (H0 V V V (decide_eq_false (by omega)) (A3 V V (H0 V V V (decide_eq_false (by omega)) (A5 (Q8 V V) V (A5 (A65 V ((decide_eq_false (by omega))) V) V (A4 ?_)))))))))))))))))))));refine k1 ?_;refine B0 rfl (fun ht=>?_) (fun ht=>?_)
   ·exfalso;simp at ht
   refine k5 (k1 (A2 (A3 V V (D2 V V V (A6 V V (A4 ?_))))));refine k4 (k1 (A2 (A3 V V (D2 V V V (A6 V V (A4 ?_))))));refine k1 ?_;refine ⟨k+1,by omega,by omega,?_⟩
   have e:(((O.take (k+1)).filter f).length:Int)=(n:Int)+1:=by
    rw [D17 hvk,if_pos (by assumption),J20,←hn,List.length_singleton];omega
   (try dsimp only)
   rw [e]
   exact I90 ⟨le1 rfl,le1 rfl,le1 rfl,le1 rfl,le1 rfl,le1 rfl,le1 rfl,trivial⟩ trivial
  ·refine k5 (k4 (k1 (A2 (A3 V V (D2 V V V (A6 V V (A4 ?_)))))));refine k1 ?_;refine ⟨k+1,by omega,by omega,?_⟩
   have e:((O.take (k+1)).filter f).length=n:=by
    rw [D17 hvk,if_neg (by rw [ht];decide),J47,←hn]
   (try dsimp only)
   rw [e]
   exact I90 ⟨le1 rfl,le1 rfl,le1 rfl,le1 rfl,le1 rfl,le1 rfl,le1 rfl,trivial⟩ trivial
 have hplt:p < T.length:=by have:=A0 ht;omega
 obtain ⟨t,htd⟩:∃t,t=T[p]:=⟨_,rfl⟩
 have hvt:T[p]?=some t:=by rw [htd];simp [hplt]
 have htf:(∃d,t=K5 g d)∨t=[]:=I80 (g:=g) (c:=c) (by rw [←hT];exact J32 hvt)
 have htl:=E86 hv htf
 have hpt:=G27 (f:=fun t=>A37 (differs nm) t cm.Files) hvt
 obtain ⟨b0,hb0⟩:∃b0,b0=(T.take p).any fun t=>A37 (differs nm) t cm.Files:=⟨_,rfl⟩
 rw [←hb0] at hpt ⊢
 refine k5 (k1 (k2 (k3 (k2 (A2 (A6 V V (A4 ?_)))))));refine k1 (k3 ?_);refine C5 (X:=Nat) (fun i=>([(5,C6 Commit 3 G1 g),(6,T7 nm),(7,C6 Int 1 E3 L),(9,C6 Int 1 E3 O),(11,C0 n),(12,C6 Str 1 Q0 names4),(13,C0 k),(14,C0 c),(15,P2 (b0||(names4.take i).any fun q=>differs nm (L0 t q,L0 cm.Files q))),(16,C6 (List File) 1 l8 T),(17,C0 p),(18,C0 i)],[])) (fun i=>i≤4) (fun i=>4 - i) 0 (Nat.zero_le _) ?_ ?_
 ·dsimp only
  rw [List.take_zero,List.any_nil,Bool.or_false]
  exact I90 ⟨le1 rfl,le1 rfl,le1 rfl,le1 rfl,le1 rfl,le1 rfl,le1 rfl,le1 rfl,le1 rfl,le1 rfl,le1 rfl,le1 rfl,trivial⟩ trivial
 intro i hi
 dsimp only at hi ⊢
 refine k2 (k2 (A2 (A3 V V (E8 V V V (A4 ?_)))));refine k1 ?_;refine B0 rfl (fun ht=>?_) (fun ht=>?_)
 rotate_left
 ·have hie:i=4:=by have:=A1 ht;omega
  subst hie
  have e:(b0||(names4.take 4).any fun q=>differs nm (L0 t q,L0 cm.Files q))=(T.take (p+1)).any fun t=>A37 (differs nm) t cm.Files:=by rw [hpt];rfl
  rw [e]
  refine k6 (k7 (k7 (k8 V (k4 (k1 (A2 (A3 V V (D2 V V V (A6 V V (A4 ?_))))))))));refine k1 ?_
  exact ⟨p+1,by omega,by omega,I90 ⟨le1 rfl,le1 rfl,le1 rfl,le1 rfl,le1 rfl,le1 rfl,le1 rfl,le1 rfl,le1 rfl,le1 rfl,le1 rfl,trivial⟩ trivial⟩
 have hilt:i < 4:=by have:=A0 ht;omega
 obtain ⟨q,hq,_⟩:=name4 i hilt
 have hq':names4[i]?=some q:=by rw [←hq,J17]
 have hit:=G27 (f:=fun q=>differs nm (L0 t q,L0 cm.Files q)) hq'
 refine k5 (k1 (k2 (k3 (k2 (E6 (by kernel_rfl) (by kernel_rfl) (E5 V V (E5 V V (B5 (A9 V (.pure _ _ _ _) V (by omega) hvt) V V (B5 (A8 V V) V V (E5 V V (E5 V V (B5 (A9 V (.pure _ _ _ _) V (by omega) hq) V V (B5 (A8 V V) V V (B5 (N4 (F88 t q (by omega)) V V) V V (E5 V V (B5 (R2 V V) V V (B5 (R2 V V) V V (B5 (I3 V V) V V (B5 (I3 V V) V V (P0 ?_))))))))))))))))))));refine k1 (k2 (E6 (by kernel_rfl) (by kernel_rfl) (E5 V V (E5 V V (B5 (A9 V (.pure _ _ _ _) V (by omega) hvc) V V (B5 (B8 V) V V (B5 (A8 V V) V V (E5 V V (E5 V V (B5 (A9 V (.pure _ _ _ _) V (by omega) hq) V V (B5 (A8 V V) V V (B5 (N4 (F88 cm.Files q (by omega)) V V) V V (E5 V V (B5 (R2 V V) V V (B5 (R2 V V) V V (B5 (I3 V V) V V (B5 (I3 V V) V V (P0 ?_))))))))))))))))));refine k1 ?_
 obtain ⟨b,hb⟩:∃b,b=(b0||(names4.take i).any fun q=>differs nm (L0 t q,L0 cm.Files q)):=⟨_,rfl⟩
 have hnx:(b0||(names4.take (i+1)).any fun q=>differs nm (L0 t q,L0 cm.Files q))=(b||differs nm (L0 t q,L0 cm.Files q)):=by rw [hit,hb,Bool.or_assoc]
 rw [←hb]
 have hl1:=X1 nm (L0 t q)
 have hl2:=X1 nm (L0 cm.Files q)
 have hl3:=G28 hv htf q
 have hl4:=G28 hv hUf q
 cases b with
 | true =>
  refine A2 (A3 V V (A3 V V (L7 V V V (by decide) V (L7 V V V (by decide) V (L7 V V V (by decide) V (L7 V V V (by decide) V (L7 V V V (by decide) V (L7 V V V (by decide) V (L7 V V V (by decide) V (L7 V V V (by decide) V (L7 V V V (by decide) V (A5 (Y1 V (rfl) V) V (A6 V V (A4 ?_))))))))))))));refine k4 (k1 (A2 (A3 V V (D2 V V V (A6 V V (A4 ?_))))));refine k1 ?_;refine ⟨i+1,by omega,by omega,?_⟩
  (try dsimp only)
  rw [hnx]
  exact I90 ⟨le1 rfl,le1 rfl,le1 rfl,le1 rfl,le1 rfl,le1 rfl,le1 rfl,le1 rfl,le1 rfl,le1 rfl,le1 rfl,le1 rfl,trivial⟩ trivial
 | false =>
  refine A2 (A3 V V (A3 V V (H0 V V V V (A3 V V (H0 V V V V (A3 V V (H0 V V V V (D3 (B89 nm (L0 t q) (by omega) hl3) V V V ?_))))))));rintro _ rfl;refine H0 V V V V (E0 V V (H0 V V V V (A3 V V (H0 V V V V (A3 V V (H0 V V V V (D3 (B89 nm (L0 cm.Files q) (by omega) hl4) V V V ?_)))))));rintro _ rfl;refine H0 V V V V (E0 V V (H0 V V V V (A5 (Q8 V V) V (A5 (A65 V (rfl) V) V (A6 V V (A4 ?_))))));refine k4 (k1 (A2 (A3 V V (D2 V V V (A6 V V (A4 ?_))))));refine k1 ?_;refine ⟨i+1,by omega,by omega,?_⟩
  (try dsimp only)
  rw [hnx]
  exact I90 ⟨le1 rfl,le1 rfl,le1 rfl,le1 rfl,le1 rfl,le1 rfl,le1 rfl,le1 rfl,le1 rfl,le1 rfl,le1 rfl,le1 rfl,trivial⟩ trivial
end Go.Proofs.YtgppobpengmbkaaGreatDoor
