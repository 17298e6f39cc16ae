/- Walks of the program's functions. -/
import Derived.Test.YtgejaedjnbjpoaaGreatDoorFg
import Derived.Test.YtgejaedjnbjpoaaGreatDoorFe
import Derived.Test.YtgejaedjnbjpoaaGreatDoorFs
import Derived.Test.YtgejaedjnbjpoaaGreatDoorFd
import Derived.Test.YtgejaedjnbjpoaaGreatDoorFf
import Derived.Test.YtgejaedjnbjpoaaGreatDoorFa
namespace Go.Proofs.YtgejaedjnbjpoaaGreatDoor
open Go Go.AL
set_option maxRecDepth 100000
def E52 (w:Str) (d:Bool) (n:Int) (hs:List CHunk):Obs:=match hs.getLast? with
 | some h=>(match h.Rows with
  | []=>U9 w d n hs
  | _::_=>V0 w d n hs h.At h.Rows)
 | none=>U9 w d n hs
section
variable {P:Program} {nt:Nat} {fr:Fr} {w:Str} {d:Bool} {n:Int} {hs:List CHunk}
theorem shutC {h:CHunk} (hf:G3 732 fr=true) (hl:hs.getLast?=some h) (hne:h.Rows≠[]):Sees P nt fr (V0 w d n hs h.At h.Rows) fr (U9 w d n hs):=by
 have h1:=Sees.freezeG (P:=P) (nt:=nt) (fr:=fr) (ob:=V0 w d n hs h.At h.Rows) (k:=732) rfl rfl
 rw [E67 hf] at h1
 refine h1.trans ?_
 have hset:hs.set (hs.length - 1) h=hs:=by
  have h2:=D89 hl
  have hlen:hs.length - 1=hs.dropLast.length:=by rw [List.length_dropLast]
  conv=>lhs;rw [hlen];arg 1;rw [h2]
  rw [List.set_append_right _ _ (Nat.le_refl _),J52,List.set_cons_zero,←h2]
 have h3:=I97 (P:=P) (nt:=nt) (fr:=fr) (ob:=I76 (Ob.freeze 732 Row 3 rowC h.Rows) (Obs.drop 732 (V0 w d n hs h.At h.Rows))) 731 h rfl (by
  obtain ⟨a,ls⟩:=h
  cases ls with
  | nil=>exact absurd rfl hne
  | cons x r=>rfl)
 rw [hset] at h3
 refine h3.trans (I79 (ObIn.spec ⟨rfl,rfl,rfl,trivial⟩))
theorem openC2 {h:CHunk} (hf:G3 732 fr=true) (hl:hs.getLast?=some h) (hne:h.Rows=[]):Sees P nt fr (U9 w d n hs) fr (V0 w d n hs h.At []):=by
 have hv:hs[hs.length - 1]?=some h:=by rw [←List.getLast?_eq_getElem?];exact hl
 refine (J00 731 (hs.length - 1) (v:=h) Z hv).trans ?_
 have hcells:(cellsOf A31 h 0 2).map TC.p=[.p (.list Int 1 L1 h.At),.p (.v (.slice none 0 0))]:=by
  obtain ⟨a,ls⟩:=h
  have hne:ls=[]:=hne
  subst hne;rfl
 rw [hcells]
 refine (I99 732 Row 3 rowC 69 (kb:=731) (o:=1) Z Z (by rw [hf];rfl)).trans ?_
 exact I79 (ObIn.spec ⟨rfl,rfl,rfl,rfl,trivial⟩)
theorem F51 (hf:G3 732 fr=true):Sees P nt fr (E52 w d n hs) fr (U9 w d n hs):=by
 unfold E52
 cases hl:hs.getLast? with
 | none=>exact I79 fun _ _ h=>h
 | some h =>
  dsimp only
  cases hh:h.Rows with
  | nil=>exact I79 fun _ _ h=>h
  | cons x r =>
   dsimp only
   rw [←hh]
   exact shutC hf hl (by rw [hh];simp)
theorem toOpenC {h:CHunk} (hf:G3 732 fr=true) (hl:hs.getLast?=some h):Sees P nt fr (E52 w d n hs) fr (V0 w d n hs h.At h.Rows):=by
 unfold E52
 rw [hl]
 dsimp only
 cases hh:h.Rows with
 | nil=>dsimp only;exact openC2 hf hl hh
 | cons x r=>exact I79 fun _ _ h=>h
theorem ofShutC {a:List Int}:E52 w d n (hs++[⟨a,[]⟩])=U9 w d n (hs++[⟨a,[]⟩]):=by unfold E52;simp
theorem H39 {h:CHunk} {ls:List Row} (hl:hs.getLast?=some h) (hne:ls≠[]):Sees P nt fr (V0 w d n hs h.At ls) fr (E52 w d n (hs.dropLast++[⟨h.At,ls⟩])):=by
 have h2:=D89 hl
 have hlen:(hs.dropLast++[(⟨h.At,ls⟩:CHunk)]).length=hs.length:=by
  conv=>rhs;rw [h2]
  simp
 have hO:E52 w d n (hs.dropLast++[⟨h.At,ls⟩])=V0 w d n (hs.dropLast++[⟨h.At,ls⟩]) h.At ls:=by
  unfold E52
  cases ls with
  | nil=>exact absurd rfl hne
  | cons x r=>simp
 rw [hO]
 have h3:=Sees.reA (P:=P) (nt:=nt) (fr:=fr) (ob:=V0 w d n hs h.At ls) 731 (hs.dropLast++[⟨h.At,ls⟩]) rfl hlen (by
  intro i hi
  have hd:hs.dropLast.length=hs.length - 1:=by rw [List.length_dropLast]
  rcases Nat.lt_or_ge i (hs.length - 1) with h4 | h4
  ·rw [J16 (by omega)]
   conv=>rhs;rw [h2]
   rw [J16 (by omega)]
  ·rw [J24 (by omega),J24 (by omega)])
 rw [show (hs.length - 1)=(hs.dropLast++[(⟨h.At,ls⟩:CHunk)]).length - 1 by rw [hlen]] at h3
 exact h3.trans (I79 (ObIn.spec ⟨rfl,rfl,rfl,rfl,trivial⟩))
end
theorem G86 {x:CHunk} (j:Nat) (rd:Rd) (u:Value) (h:(A31 x j).rep rd u):(K4 x j).rep rd u:=by
 match j with
 | 0=>exact h
 | j+1 =>
  obtain ⟨a,ls⟩:=x
  cases ls with
  | nil =>
   have h:(Cell.v (.slice none 0 0)).rep rd u:=h
   obtain ⟨rfl,_⟩:=h
   exact O1 _ _ _
  | cons y r=>exact h
def Y1 (l:List Str):List PV:=match Q3 l with
 | some p=>[K9 p,E0 true]
 | none=>[K9 comb0,E0 false]
set_option maxHeartbeats 4000000
theorem H89 (l:List Str) (hw:(l.map A18).sum≤268435456) (hsz:∀s∈l,s.length≤4194304):FnOk Tryz.prog 83 [j2 l] (fun rs=>rs=Y1 l):=by
 have hll:420*l.length≤(l.map A18).sum:=by
  clear hw hsz
  induction l with
  | nil=>simp
  | cons x r ih =>
   have e:A18 x=420*(x.length+1):=rfl
   simp only [J08,J28,J02,e];omega
 by_cases hlen:l.length < 2
 ·have hp:Q3 l=none:=by
   match l,hlen with
   | [],_=>rfl
   | [_],_=>rfl
  have hb:decide ((l.length:Int) < 2)=true:=decide_eq_true (by omega)
  refine FnOk.intro Tryz.func83 (by decide) Z Z Z Z ?_
  refine k2 ?_
  refine A3 (C3 (H1 2 Z) Z (A2 (A5 Z Z) Z (A6 ?_)))
  refine k1 (k2 ?_)
  refine A3 (A2 (F8 Z) Z (C3 (P5 730 Z Z Z) Z (A2 (A5 Z Z) Z (A6 ?_))))
  refine k1 (k2 (k2 ?_))
  refine C4 (by kernel_rfl) (by kernel_rfl) (A8 (A4 Z Z) Z Z (A8 (F1 Z (.pure _ _ _ _)) Z Z (A8 (D6 Z Z) Z Z (A8 (A4 Z Z) Z Z (A28 Z Z (by rw [hb];decide) Z Z ?_)))));refine A28 Z Z (by rw [hb];decide) Z Z ?_;refine A28 Z Z (by rw [hb];decide) Z Z ?_;refine A28 Z Z (by rw [hb];decide) Z Z ?_;refine A28 Z Z (by rw [hb];decide) Z Z ?_;refine A28 Z Z (by rw [hb];decide) Z Z ?_;refine A28 Z Z (by rw [hb];decide) Z Z ?_;refine A28 Z Z (by rw [hb];decide) Z Z ?_;refine A28 Z Z (by rw [hb];decide) Z Z ?_;refine A8 (B13 Z (hb) Z) Z Z (H9 ?_)
  refine k1 ?_
  refine B1 rfl (fun ht=>?_) (fun ht=>?_)
  rotate_left
  ·cases ht
  refine k2 ?_
  refine A3 (A2 (F8 Z) Z (E9 (C0 TySz.out Z Z Z Z Z Z) (A2 (A5 Z Z) Z (A6 ?_))))
  refine k1 ?_
  refine F5 (I73 CHunk 2 K4 2 3 Z Z) ?_
  refine k10 (k11 ?_)
  exact B5 (rs:=[K9 comb0,E0 false]) (R6 rfl rfl rfl rfl rfl rfl rfl) (by unfold Y1;rw [hp])
 obtain ⟨l0,l1,R,rfl⟩:∃a b r,l=a::b::r:=by
  match l,hlen with
  | a::b::r,_=>exact ⟨a,b,r,rfl⟩
  | [],h=>exact absurd (by simp) h
  | [_],h=>exact absurd (by simp) h
 have z0:=hsz l0 (by simp)
 have z1:=hsz l1 (by simp)
 have hWR:(R.map A18).sum≤268435456:=by simp only [J08,J28] at hw;omega
 have hRl:R.length≤16777216:=by simp only [J02] at hll;omega
 clear hw hll
 have hb:decide (((l0::l1::R).length:Int) < 2)=false:=decide_eq_false (by simp only [J02];omega)
 have hg0:(l0::l1::R)[(0:Int).toNat]?=some l0:=rfl
 have hg1:(l0::l1::R)[(1:Int).toNat]?=some l1:=rfl
 have hm:=fun gf=>G84 (gf:=gf) l0 l1 z0 z1
 cases hT:n5 true l0 l1 with
 | none =>
  rw [hT] at hm
  have hp:Q3 (l0::l1::R)=none:=by unfold Q3;dsimp only;rw [hT]
  refine FnOk.intro Tryz.func83 (by decide) Z Z Z Z ?_
  refine k2 ?_
  refine A3 (C3 (H1 2 Z) Z (A2 (A5 Z Z) Z (A6 ?_)))
  refine k1 (k2 ?_)
  refine A3 (A2 (F8 Z) Z (C3 (P5 730 Z Z Z) Z (A2 (A5 Z Z) Z (A6 ?_))))
  refine k1 (k2 (k2 ?_))
  refine B20 11 (by kernel_rfl) (by kernel_rfl) Z (A8 (A4 Z Z) Z Z (A8 (F1 Z (.pure _ _ _ _)) Z Z (A8 (D6 Z Z) Z Z (A8 (A4 Z Z) Z Z (B57 Z Z hb Z (A8 (A4 Z Z) Z Z (B57 Z Z hb Z (A8 (A4 Z Z) Z Z (B57 Z Z hb Z (A8 (B3 Z (.pure _ _ _ _) Z (by omega) hg0) Z Z (B57 Z Z hb Z (A8 (B6 Z Z) Z Z (B57 Z Z hb Z (A8 (A4 Z Z) Z Z (B57 Z Z hb Z (A8 (B3 Z (.pure _ _ _ _) Z (by omega) hg1) Z Z (B57 Z Z hb Z (A8 (B6 Z Z) Z Z (H9 (E78 Z Z hb (C15 (hm _) Z Z Z ?_)))))))))))))))))))));rintro _ _ ⟨w,d,n,ok,rfl,rfl,rfl⟩;refine ⟨_,rfl,?_⟩;refine B57 Z Z hb Z (A8 (F0 Z) Z Z (A8 (B14 Z (hb) Z) Z Z (H9 ?_)))
  refine k1 ?_
  refine B1 rfl (fun ht=>?_) (fun ht=>?_)
  rotate_left
  ·cases ht
  refine k2 ?_
  refine A3 (A2 (F8 Z) Z (E9 (C0 TySz.out Z Z Z Z Z Z) (A2 (A5 Z Z) Z (A6 ?_))))
  refine k1 ?_
  refine F5 (I73 CHunk 2 K4 2 3 Z Z) ?_
  refine k10 (k11 ?_)
  exact B5 (rs:=[K9 comb0,E0 false]) (R6 rfl rfl rfl rfl rfl rfl rfl) (by unfold Y1;rw [hp])
 | some q =>
  obtain ⟨d,w,n⟩:=q
  rw [hT] at hm
  have hn:=E98 hT
  obtain ⟨N,rfl⟩:∃N:Nat,n=N:=⟨n.toNat,by omega⟩
  have hN:1≤N∧N≤32:=by omega
  have hPs:∀hs,X4 N [] R=some hs→[K9 ⟨w,d,N,hs⟩,E0 true]=Y1 (l0::l1::R):=by
   intro hs h
   have:Q3 (l0::l1::R)=some ⟨w,d,N,hs⟩:=by unfold Q3;dsimp only;rw [hT];dsimp only;rw [J09,h]
   unfold Y1;rw [this]
  have hnone:X4 N [] R=none→[K9 comb0,E0 false]=Y1 (l0::l1::R):=by
   intro h
   have:Q3 (l0::l1::R)=none:=by unfold Q3;dsimp only;rw [hT];dsimp only;rw [J09,h]
   unfold Y1;rw [this]
  refine FnOk.intro Tryz.func83 (by decide) Z Z Z Z ?_
  refine k2 ?_
  refine A3 (C3 (H1 2 Z) Z (A2 (A5 Z Z) Z (A6 ?_)))
  refine k1 (k2 ?_)
  refine A3 (A2 (F8 Z) Z (C3 (P5 730 Z Z Z) Z (A2 (A5 Z Z) Z (A6 ?_))))
  refine k1 (k2 (k2 ?_))
  refine B20 11 (by kernel_rfl) (by kernel_rfl) Z (A8 (A4 Z Z) Z Z (A8 (F1 Z (.pure _ _ _ _)) Z Z (A8 (D6 Z Z) Z Z (A8 (A4 Z Z) Z Z (B57 Z Z hb Z (A8 (A4 Z Z) Z Z (B57 Z Z hb Z (A8 (A4 Z Z) Z Z (B57 Z Z hb Z (A8 (B3 Z (.pure _ _ _ _) Z (by omega) hg0) Z Z (B57 Z Z hb Z (A8 (B6 Z Z) Z Z (B57 Z Z hb Z (A8 (A4 Z Z) Z Z (B57 Z Z hb Z (A8 (B3 Z (.pure _ _ _ _) Z (by omega) hg1) Z Z (B57 Z Z hb Z (A8 (B6 Z Z) Z Z (H9 (E78 Z Z hb (C15 (hm _) Z Z Z ?_)))))))))))))))))))));rintro _ _ ⟨w',d',n',ok,rfl,rfl,rfl,rfl,rfl,rfl⟩;refine ⟨_,rfl,?_⟩;refine B57 Z Z hb Z (A8 (F0 Z) Z Z (A8 (B14 Z (hb) Z) Z Z (H9 ?_)))
  refine k1 ?_
  refine B1 rfl (fun ht=>?_) (fun ht=>?_)
  ·cases ht
  refine k5 (k1 (k2 (k2 ?_)))
  refine A3 (A2 (A4 Z Z) Z (A2 (C57 Z (.pure _ _ _ _) Z (by (first | omega | (simp only [J02];omega))) (by (first | omega | (simp only [J02];omega)))) Z (A2 (F1 Z (.pure _ _ _ _)) Z (A2 (A4 Z Z) Z (A6 ?_)))))
  refine k1 (k3 ?_)
  refine F5 (I95 731 CHunk 2 A31 82 (kb:=730) (o:=3) Z Z Z) ?_
  refine D3 (X:=Nat × List CHunk) (fun x=>([(4,.s (.one (.ref 730 0))),(2,.s (.one (.ref 2 0))),(25,D1 Str 1 K1 R),(26,C2 R.length),(27,C2 x.1)],E52 w' d' N x.2)) (fun x=>x.1≤R.length∧CInv N x.2∧szC x.2≤wgTo R x.1∧X4 N x.2 (R.drop x.1)=X4 N [] R) (fun x=>R.length - x.1) (0,[]) ⟨Nat.zero_le _,(fun h hh=>(by cases hh)),(by simp [szC]),rfl⟩ (I72 ⟨le1 rfl,le1 rfl,le1 rfl,le1 rfl,le1 rfl,trivial⟩ ⟨rfl,rfl,rfl,trivial⟩) ?_
  rintro ⟨k,hs⟩ ⟨hk,hci,hz,hf⟩
  dsimp only at hk hci hz hf ⊢
  have hzb:wgTo R k≤(R.map A18).sum:=by
   unfold wgTo
   conv=>rhs;rw [←J41 k R,J17,J40]
   omega
  have hsl:=A25 hs
  refine k2 ?_
  refine A3 (A2 (D6 Z Z) Z (A6 ?_))
  refine k1 (k2 ?_)
  refine B1 rfl (fun ht=>?_) (fun ht=>?_)
  ·have hlt:k < R.length:=by have:=A0 ht;omega
   obtain ⟨x,hx⟩:∃x,x=R[k]:=⟨_,rfl⟩
   have hv:R[k]?=some x:=by rw [hx];simp [hlt]
   have hxz:=hsz x (by simp [J22 hv])
   have hwk:=H82 hlt
   rw [←hx] at hwk
   rw [J07 hlt,←hx,X4] at hf
   have hstep:∀{g},T6 N hs x=some g→X4 N g (R.drop (k+1))=X4 N [] R∧szC g≤wgTo R (k+1)∧CInv N g:=by
    intro g hg
    rw [hg] at hf
    have h3:=G16 hN hg hci
    exact ⟨hf,by omega,h3.2⟩
   have hfail:T6 N hs x=none→X4 N [] R=none:=by intro h;rw [h] at hf;exact hf.symm
   clear hf hx
   refine k5 (k1 (k2 (k3 (k2 ?_))))
   refine A3 (A2 (B3 Z (.pure _ _ _ _) Z (by omega) hv) Z (A2 (B6 Z Z) Z (A2 (A5 Z Z) Z (A6 ?_))))
   refine k1 (k2 ?_)
   by_cases h64:x.take 1=[64]
   ·refine F5 (F51 Z) ?_
    refine V5 [(4,.s (.one (.ref 730 0))),(2,.s (.one (.ref 2 0))),(25,D1 Str 1 K1 R),(26,C2 R.length),(27,C2 k),(6,H5 x)] (U9 w' d' N hs) (I72 ⟨le1 rfl,le1 rfl,le1 rfl,le1 rfl,le1 rfl,le1 rfl,trivial⟩ ⟨rfl,rfl,rfl,trivial⟩) ?_
    have hm:=I45 x R k w' d' N hs hN (by omega) hxz h64
    cases hh:A09 N x with
    | none =>
     rw [hh] at hm
     have hst:T6 N hs x=none:=by unfold T6;rw [if_pos h64,hh]
     refine A3 (A2 (A4 Z Z) Z (A2 (A4 Z Z) Z (V6 (hm) Z Z Z ?_)));rintro _ _ ⟨rfl,rfl⟩;refine A2 (F0 Z) Z (A6 ?_)
     refine k1 ?_
     refine B1 rfl (fun ht=>?_) (fun ht=>?_)
     ·refine k2 ?_
      refine A3 (A2 (F8 Z) Z (E9 (C0 TySz.out Z Z Z Z Z Z) (A2 (A5 Z Z) Z (A6 ?_))))
      refine k1 ?_
      refine F5 (I73 CHunk 2 K4 2 3 Z Z) ?_
      refine k10 (k12 (k11 (k11 (k12 (k11 ?_)))))
      exact B5 (rs:=[K9 comb0,E0 false]) (R6 rfl rfl rfl rfl rfl rfl rfl) (hnone (hfail hst))
     ·cases ht
    | some a =>
     rw [hh] at hm
     have hst:T6 N hs x=some (hs++[⟨a,[]⟩]):=by unfold T6;rw [if_pos h64,hh]
     obtain ⟨s1,s2,s3⟩:=hstep hst
     refine A3 (A2 (A4 Z Z) Z (A2 (A4 Z Z) Z (V6 (hm) Z Z Z ?_)));rintro _ _ ⟨rfl,rfl⟩;refine A2 (F0 Z) Z (A6 ?_)
     refine k1 ?_
     refine B1 rfl (fun ht=>?_) (fun ht=>?_)
     ·cases ht
     refine k5 (k4 (k1 ?_))
     refine A3 (A2 (C1 Z Z (by omega)) Z (A2 (A4 Z Z) Z (A6 ?_)))
     refine k1 ?_
     refine ⟨(k+1,hs++[⟨a,[]⟩]),⟨hlt,s3,s2,s1⟩,by dsimp only;omega,?_⟩
     dsimp only
     rw [ofShutC]
     exact I72 ⟨le1 rfl,le1 rfl,le1 rfl,le1 rfl,le1 rfl,trivial⟩ ⟨rfl,rfl,rfl,trivial⟩
   cases hl:hs.getLast? with
   | none =>
    have hn0:hs=[]:=List.getLast?_eq_none_iff.1 hl
    subst hn0
    have hst:T6 N [] x=none:=by unfold T6;rw [if_neg h64,if_pos rfl]
    have hm:=H86 x R k w' d' N h64
    refine F5 (F51 Z) ?_
    refine V5 [(4,.s (.one (.ref 730 0))),(2,.s (.one (.ref 2 0))),(25,D1 Str 1 K1 R),(26,C2 R.length),(27,C2 k),(6,H5 x)] (U9 w' d' N []) (I72 ⟨le1 rfl,le1 rfl,le1 rfl,le1 rfl,le1 rfl,le1 rfl,trivial⟩ ⟨rfl,rfl,rfl,trivial⟩) ?_
    refine A3 (A2 (A4 Z Z) Z (A2 (A4 Z Z) Z (V6 (hm) Z Z Z ?_)));rintro _ _ ⟨rfl,rfl⟩;refine A2 (F0 Z) Z (A6 ?_)
    refine k1 ?_
    refine B1 rfl (fun ht=>?_) (fun ht=>?_)
    ·refine k2 ?_
     refine A3 (A2 (F8 Z) Z (E9 (C0 TySz.out Z Z Z Z Z Z) (A2 (A5 Z Z) Z (A6 ?_))))
     refine k1 ?_
     refine F5 (I73 CHunk 2 K4 2 3 Z Z) ?_
     refine k10 (k12 (k11 (k11 (k12 (k11 ?_)))))
     exact B5 (rs:=[K9 comb0,E0 false]) (R6 rfl rfl rfl rfl rfl rfl rfl) (hnone (hfail hst))
    ·cases ht
   | some h =>
    have hne:hs≠[]:=by intro e;rw [e] at hl;cases hl
    have h0:0 < hs.length:=List.length_pos_iff.2 hne
    have hmem:=A87 (List.mem_of_getLast? hl)
    have hrl:=T4 h.Rows
    have hmem2:(h.Rows.map M9).sum≤szC hs:=by
     rw [B47] at hmem;omega
    refine F5 (toOpenC Z hl) ?_
    refine V5 [(4,.s (.one (.ref 730 0))),(2,.s (.one (.ref 2 0))),(25,D1 Str 1 K1 R),(26,C2 R.length),(27,C2 k),(6,H5 x)] (V0 w' d' N hs h.At h.Rows) (I72 ⟨le1 rfl,le1 rfl,le1 rfl,le1 rfl,le1 rfl,le1 rfl,trivial⟩ ⟨rfl,rfl,rfl,rfl,trivial⟩) ?_
    by_cases hno:x=noNl
    ·subst hno
     have hm:=H87 R k w' d' N hs h.At h.Rows h0 (by omega) (by omega) (fun r hr=>by
      have h5:=B53 hr
      have h6:M9 r=r.Text.length+96:=rfl
      omega)
     cases hx2:h.Rows.getLast? with
     | none =>
      rw [hx2] at hm
      have hst:T6 N hs noNl=none:=by
       unfold T6;rw [if_neg h64,if_neg hne,if_pos rfl];unfold E24;rw [hl];dsimp only;rw [hx2]
      refine A3 (A2 (A4 Z Z) Z (A2 (A4 Z Z) Z (V6 (hm) Z Z Z ?_)));rintro _ _ ⟨rfl,rfl⟩;refine A2 (F0 Z) Z (A6 ?_)
      refine k1 ?_
      refine B1 rfl (fun ht=>?_) (fun ht=>?_)
      ·refine k2 ?_
       refine A3 (A2 (F8 Z) Z (E9 (C0 TySz.out Z Z Z Z Z Z) (A2 (A5 Z Z) Z (A6 ?_))))
       refine k1 ?_
       refine F5 (I73 CHunk 2 K4 2 3 Z Z) ?_
       refine k10 (k12 (k11 (k11 (k12 (k11 ?_)))))
       exact B5 (rs:=[K9 comb0,E0 false]) (R6 rfl rfl rfl rfl rfl rfl rfl) (hnone (hfail hst))
      ·cases ht
     | some r =>
      rw [hx2] at hm
      have hst:T6 N hs noNl=some (hs.dropLast++[⟨h.At,h.Rows.dropLast++[⟨r.Lost,r.Marks,B37 r.Text⟩]⟩]):=by
       unfold T6;rw [if_neg h64,if_neg hne,if_pos rfl];unfold E24;rw [hl];dsimp only;rw [hx2]
      obtain ⟨s1,s2,s3⟩:=hstep hst
      refine A3 (A2 (A4 Z Z) Z (A2 (A4 Z Z) Z (V6 (hm) Z Z Z ?_)));rintro _ _ ⟨rfl,rfl⟩;refine A2 (F0 Z) Z (A6 ?_)
      refine k1 ?_
      refine B1 rfl (fun ht=>?_) (fun ht=>?_)
      ·cases ht
      refine k5 (k4 (k1 ?_))
      refine A3 (A2 (C1 Z Z (by omega)) Z (A2 (A4 Z Z) Z (A6 ?_)))
      refine k1 ?_
      refine ⟨(k+1,hs.dropLast++[⟨h.At,h.Rows.dropLast++[⟨r.Lost,r.Marks,B37 r.Text⟩]⟩]),⟨hlt,s3,s2,s1⟩,by dsimp only;omega,?_⟩
      refine Sees.trans ?_ (H39 hl (by simp))
      exact I72 ⟨le1 rfl,le1 rfl,le1 rfl,le1 rfl,le1 rfl,trivial⟩ ⟨rfl,rfl,rfl,rfl,trivial⟩
    ·have hm:=H88 x R k w' d' N hs h.At h.Rows h0 (by omega) (by omega) hxz h64 hno
     have hro:AL.rowAt (x++[10]) N=A12 (x++[10]) (N:Int):=by unfold A12;rw [if_neg (by omega),J09]
     cases hr:A12 (x++[10]) (N:Int) with
     | none =>
      rw [hr] at hm hro
      have hst:T6 N hs x=none:=by unfold T6;rw [if_neg h64,if_neg hne,if_neg hno,hro]
      refine A3 (A2 (A4 Z Z) Z (A2 (A4 Z Z) Z (V6 (hm) Z Z Z ?_)));rintro _ _ ⟨rfl,rfl⟩;refine A2 (F0 Z) Z (A6 ?_)
      refine k1 ?_
      refine B1 rfl (fun ht=>?_) (fun ht=>?_)
      ·refine k2 ?_
       refine A3 (A2 (F8 Z) Z (E9 (C0 TySz.out Z Z Z Z Z Z) (A2 (A5 Z Z) Z (A6 ?_))))
       refine k1 ?_
       refine F5 (I73 CHunk 2 K4 2 3 Z Z) ?_
       refine k10 (k12 (k11 (k11 (k12 (k11 ?_)))))
       exact B5 (rs:=[K9 comb0,E0 false]) (R6 rfl rfl rfl rfl rfl rfl rfl) (hnone (hfail hst))
      ·cases ht
     | some r =>
      rw [hr] at hm hro
      have hst:T6 N hs x=some (hs.dropLast++[⟨h.At,h.Rows++[r]⟩]):=by unfold T6;rw [if_neg h64,if_neg hne,if_neg hno,hro];dsimp only;unfold F69;rw [hl]
      obtain ⟨s1,s2,s3⟩:=hstep hst
      refine A3 (A2 (A4 Z Z) Z (A2 (A4 Z Z) Z (V6 (hm) Z Z Z ?_)));rintro _ _ ⟨rfl,rfl⟩;refine A2 (F0 Z) Z (A6 ?_)
      refine k1 ?_
      refine B1 rfl (fun ht=>?_) (fun ht=>?_)
      ·cases ht
      refine k5 (k4 (k1 ?_))
      refine A3 (A2 (C1 Z Z (by omega)) Z (A2 (A4 Z Z) Z (A6 ?_)))
      refine k1 ?_
      refine ⟨(k+1,hs.dropLast++[⟨h.At,h.Rows++[r]⟩]),⟨hlt,s3,s2,s1⟩,by dsimp only;omega,?_⟩
      refine Sees.trans ?_ (H39 hl (by simp))
      exact I72 ⟨le1 rfl,le1 rfl,le1 rfl,le1 rfl,le1 rfl,trivial⟩ ⟨rfl,rfl,rfl,rfl,trivial⟩
  ·have hk2:k=R.length:=by have:=A1 ht;omega
   subst hk2
   rw [J11 (Nat.le_refl _)] at hf
   have hf:some hs=X4 N [] R:=hf
   refine k6 (k2 ?_)
   refine F5 (F51 Z) ?_
   refine F5 (I98 731 K4 Z (fun x _ j _ rd u=>G86 j rd u)) ?_
   refine F5 (Sees.freezeG (k:=731) Z Z) ?_
   refine V5 [(4,.s (.one (.ref 730 0))),(2,.s (.one (.ref 2 0)))] [(730,.box [.p (.v (.string ⟨w'.toArray⟩)),.p (.v (.bool d')),.p (.v (.int .i64 N)),.p (.list CHunk 2 K4 hs)]),(2,S0)] (I72 ⟨le1 rfl,le1 rfl,trivial⟩ ⟨rfl,rfl,trivial⟩) ?_
   refine A3 (A2 (A4 Z Z) Z (A2 (B7 Z) Z (A2 (A7 Z) Z (A2 (D4 Z Z Z) Z (E9 (C0 TySz.out Z Z Z Z Z Z) (A2 (A5 Z Z) Z (A6 ?_)))))))
   refine k1 (k10 ?_)
   exact B5 (rs:=[K9 ⟨w',d',N,hs⟩,E0 true]) (R6 rfl rfl rfl rfl rfl rfl rfl) (hPs hs hf.symm)
theorem G20 {s:Str} {l:List Str} (h:s5 s=some l):(l.map A18).sum≤420*s.length:=by
 unfold s5 at h
 split at h
 ·cases h;simp
 ·split at h
  ·have h:(C8 s).map List.dropLast=l:=Option.some.inj h
   obtain ⟨f1,f2⟩:=E16 s
   have hsum:∀L:List Str,(∀x∈L,x≠[])→((L.map List.dropLast).map A18).sum≤420*L.flatten.length:=by
    intro L
    induction L with
    | nil=>intro _;simp
    | cons x r ih =>
     intro hne
     have ih:=ih (fun y hy=>hne y (by simp [hy]))
     have hx:=List.length_pos_iff.2 (hne x (by simp))
     simp only [J08,J28,J14,J01]
     have e:A18 x.dropLast=420*(x.dropLast.length+1):=rfl
     rw [e,List.length_dropLast]
     omega
   have hs:=hsum (C8 s) (fun x hx=>((B93 x).1 ((H00 s).1 x hx)).1)
   rw [h] at hs
   omega
  ·cases h
def F01 (f:List Str→Option Comb) (s:Str):List PV:=[K9 (Q4 f s).1,E6 (Q4 f s).2]
theorem D12 (s:Str) (hs:s.length≤600000):FnOk Tryz.prog 36 [F3 s] (fun rs=>rs=F01 Q3 s):=by
 have h16:¬16777216 < s.length:=by omega
 have hL:=G78 s (by omega)
 have hfail:∀{x:Comb × Int},Q4 Q3 s=x→x=(comb0,4)→[K9 comb0,E6 4]=F01 Q3 s:=by
  intro x h1 h2
  unfold F01;rw [h1,h2]
 refine FnOk.intro Tryz.func36 (by decide) Z Z Z Z ?_
 refine k2 ?_
 refine A3 (C3 (H1 2 Z) Z (A2 (A5 Z Z) Z (A6 ?_)))
 refine k1 (k2 (k2 ?_))
 refine A3 (A2 (A4 Z Z) Z (A2 (E4 Z) Z (A2 (N2 Z Z) Z (A6 ?_))))
 refine k1 ?_
 refine B1 rfl (fun ht=>?_) (fun ht=>?_)
 ·exact absurd (A0 ht) (by omega)
 cases hl:s5 s with
 | none =>
  unfold C74 at hL
  rw [hl] at hL
  refine k5 (k1 (k2 ?_))
  refine A3 (A2 (A4 Z Z) Z (B9 (hL) Z Z Z ?_));rintro _ rfl;refine A2 (A4 Z Z) Z (A2 (B2 Z Z) Z (A2 (B2 Z Z) Z (A2 (A5 Z Z) Z (A2 (A5 Z Z) Z (A6 ?_)))))
  refine k1 (k2 (k2 ?_))
  refine A3 (A2 (A4 Z Z) Z (A2 (F0 Z) Z (A6 ?_)))
  refine k1 ?_
  refine B1 rfl (fun ht=>?_) (fun ht=>?_)
  ·refine k2 ?_
   refine A3 (A2 (F8 Z) Z (E9 (C0 TySz.out Z Z Z Z Z Z) (A2 (A5 Z Z) Z (A6 ?_))))
   refine k1 ?_
   refine F5 (I73 CHunk 2 K4 2 3 Z Z) ?_
   refine k10 (k11 ?_)
   exact B5 (rs:=[K9 comb0,E6 4]) (R6 rfl rfl rfl rfl rfl rfl rfl) (hfail rfl (by unfold Q4;rw [if_neg h16,hl]))
  ·cases ht
 | some l =>
  unfold C74 at hL
  rw [hl] at hL
  obtain ⟨z1,z2⟩:=H68 hl
  have zw:=G20 hl
  have hP:=H89 l (by omega) (fun t ht=>by have:=z2 t ht;omega)
  cases hp:Q3 l with
  | none =>
   unfold Y1 at hP
   rw [hp] at hP
   refine k5 (k1 (k2 ?_))
   refine A3 (A2 (A4 Z Z) Z (B9 (hL) Z Z Z ?_));rintro _ rfl;refine A2 (A4 Z Z) Z (A2 (B2 Z Z) Z (A2 (B2 Z Z) Z (A2 (A5 Z Z) Z (A2 (A5 Z Z) Z (A6 ?_)))))
   refine k1 (k2 (k2 ?_))
   refine A3 (A2 (A4 Z Z) Z (A2 (F0 Z) Z (A6 ?_)))
   refine k1 ?_
   refine B1 rfl (fun ht=>?_) (fun ht=>?_)
   ·cases ht
   refine k5 (k1 (k2 ?_))
   refine A3 (A2 (A4 Z Z) Z (B9 (hP) Z Z Z ?_));rintro _ rfl;refine A2 (A4 Z Z) Z (A2 (B2 Z Z) Z (A2 (B2 Z Z) Z (C3 (H1 6 Z) Z (E9 (C0 TySz.out Z Z Z Z Z Z) (A2 (A5 Z Z) Z (A6 ?_))))))
   refine k1 (k2 (k2 ?_))
   refine A3 (A2 (A4 Z Z) Z (A2 (F0 Z) Z (A6 ?_)))
   refine k1 ?_
   refine B1 rfl (fun ht=>?_) (fun ht=>?_)
   ·refine k2 ?_
    refine A3 (A2 (F8 Z) Z (E9 (C0 TySz.out Z Z Z Z Z Z) (A2 (A5 Z Z) Z (A6 ?_))))
    refine k1 ?_
    refine F5 (I73 CHunk 2 K4 2 3 Z Z) ?_
    refine k10 (k11 ?_)
    exact B5 (rs:=[K9 comb0,E6 4]) (R6 rfl rfl rfl rfl rfl rfl rfl) (hfail rfl (by unfold Q4;rw [if_neg h16,hl];dsimp only;rw [hp]))
   ·cases ht
  | some p =>
   unfold Y1 at hP
   rw [hp] at hP
   obtain ⟨_,hsz,hci⟩:=C78 hp
   have hz:szC p.Hunks≤268435456:=by omega
   have hr:∀h∈p.Hunks,I8 h.Rows:=fun h hm=>(hci h hm).2
   have hF:=D94 p hz hr
   have hS:Q4 Q3 s=if G5 p≠0∨O9 p≠s then (comb0,4) else (p,0):=by unfold Q4;rw [if_neg h16,hl];dsimp only;rw [hp]
   by_cases hc:G5 p=0
   ·rw [if_pos hc] at hF
    refine k5 (k1 (k2 ?_))
    refine A3 (A2 (A4 Z Z) Z (B9 (hL) Z Z Z ?_));rintro _ rfl;refine A2 (A4 Z Z) Z (A2 (B2 Z Z) Z (A2 (B2 Z Z) Z (A2 (A5 Z Z) Z (A2 (A5 Z Z) Z (A6 ?_)))))
    refine k1 (k2 (k2 ?_))
    refine A3 (A2 (A4 Z Z) Z (A2 (F0 Z) Z (A6 ?_)))
    refine k1 ?_
    refine B1 rfl (fun ht=>?_) (fun ht=>?_)
    ·cases ht
    refine k5 (k1 (k2 ?_))
    refine A3 (A2 (A4 Z Z) Z (B9 (hP) Z Z Z ?_));rintro _ rfl;refine A2 (A4 Z Z) Z (A2 (B2 Z Z) Z (A2 (B2 Z Z) Z (C3 (H1 6 Z) Z (E9 (C0 TySz.out Z Z Z Z Z Z) (A2 (A5 Z Z) Z (A6 ?_))))))
    refine k1 (k2 (k2 ?_))
    refine A3 (A2 (A4 Z Z) Z (A2 (F0 Z) Z (A6 ?_)))
    refine k1 ?_
    refine B1 rfl (fun ht=>?_) (fun ht=>?_)
    ·cases ht
    refine k5 (k1 (k2 (k2 ?_)))
    refine A3 (A2 (D4 Z Z Z) Z (B9 (hF) Z Z Z ?_));rintro _ rfl;refine A2 (A4 Z Z) Z (A2 (B2 Z Z) Z (A2 (B2 Z Z) Z (A2 (A5 Z Z) Z (A2 (A5 Z Z) Z (A6 ?_)))))
    refine k1 (k2 ?_)
    refine A3 (A2 (A4 Z Z) Z (A2 (M5 Z Z) Z (A2 (A4 Z Z) Z (A9 Z Z Z Z (fun hg=>by rw [hg];exact A4 Z Z) ?_))));refine A9 Z Z Z Z (fun hg=>by rw [hg];exact A4 Z Z) ?_;refine A9 Z Z Z Z (fun hg=>by rw [hg];exact x9 Z Z) ?_;refine A2 (B4 Z (fun h=>by first | rfl | (rw [h];rfl)) (fun h=>by first | rfl | (rw [h];rfl))) Z ?_;refine A6 ?_
    simp only [or_pick]
    refine k1 ?_
    by_cases hb:O9 p=s
    ·rw [if_neg (by simp [hc,hb])] at hS
     refine B1 rfl (fun ht=>?_) (fun ht=>?_)
     ·exfalso
      rcases A0 ht with h | h
      ·exact h rfl
      ·exact h hb
     refine k5 (k1 (k2 ?_))
     refine A3 (A2 (D4 Z Z Z) Z (E9 (C0 TySz.out Z Z Z Z Z Z) (A2 (A5 Z Z) Z (A6 ?_))))
     refine k1 (k10 ?_)
     exact B5 (rs:=[K9 p,E6 0]) (R6 rfl rfl rfl rfl rfl rfl rfl) (by unfold F01;rw [hS])
    ·rw [if_pos (.inr hb)] at hS
     refine B1 rfl (fun ht=>?_) (fun ht=>?_)
     rotate_left
     ·exact absurd (.inr hb) (A1 ht)
     refine k2 ?_
     refine A3 (A2 (F8 Z) Z (E9 (C0 TySz.out Z Z Z Z Z Z) (A2 (A5 Z Z) Z (A6 ?_))))
     refine k1 ?_
     refine F5 (I73 CHunk 2 K4 2 3 Z Z) ?_
     refine k10 (k11 ?_)
     exact B5 (rs:=[K9 comb0,E6 4]) (R6 rfl rfl rfl rfl rfl rfl rfl) (hfail hS rfl)
   ·rw [if_neg hc] at hF
    rw [if_pos (.inl hc)] at hS
    refine k5 (k1 (k2 ?_))
    refine A3 (A2 (A4 Z Z) Z (B9 (hL) Z Z Z ?_));rintro _ rfl;refine A2 (A4 Z Z) Z (A2 (B2 Z Z) Z (A2 (B2 Z Z) Z (A2 (A5 Z Z) Z (A2 (A5 Z Z) Z (A6 ?_)))))
    refine k1 (k2 (k2 ?_))
    refine A3 (A2 (A4 Z Z) Z (A2 (F0 Z) Z (A6 ?_)))
    refine k1 ?_
    refine B1 rfl (fun ht=>?_) (fun ht=>?_)
    ·cases ht
    refine k5 (k1 (k2 ?_))
    refine A3 (A2 (A4 Z Z) Z (B9 (hP) Z Z Z ?_));rintro _ rfl;refine A2 (A4 Z Z) Z (A2 (B2 Z Z) Z (A2 (B2 Z Z) Z (C3 (H1 6 Z) Z (E9 (C0 TySz.out Z Z Z Z Z Z) (A2 (A5 Z Z) Z (A6 ?_))))))
    refine k1 (k2 (k2 ?_))
    refine A3 (A2 (A4 Z Z) Z (A2 (F0 Z) Z (A6 ?_)))
    refine k1 ?_
    refine B1 rfl (fun ht=>?_) (fun ht=>?_)
    ·cases ht
    refine k5 (k1 (k2 (k2 ?_)))
    refine A3 (A2 (D4 Z Z Z) Z (B9 (hF) Z Z Z ?_));rintro _ rfl;refine A2 (A4 Z Z) Z (A2 (B2 Z Z) Z (A2 (B2 Z Z) Z (A2 (A5 Z Z) Z (A2 (A5 Z Z) Z (A6 ?_)))))
    refine k1 (k2 ?_)
    refine A3 (A2 (A4 Z Z) Z (A2 (M5 Z Z) Z (A2 (A4 Z Z) Z (A9 Z Z Z Z (fun hg=>by rw [hg];exact A4 Z Z) ?_))));refine A9 Z Z Z Z (fun hg=>by rw [hg];exact A4 Z Z) ?_;refine A9 Z Z Z Z (fun hg=>by rw [hg];exact x9 Z Z) ?_;refine A2 (B4 Z (fun h=>by first | rfl | (rw [h];rfl)) (fun h=>by first | rfl | (rw [h];rfl))) Z ?_;refine A6 ?_
    simp only [or_pick]
    refine k1 ?_
    refine B1 rfl (fun ht=>?_) (fun ht=>?_)
    rotate_left
    ·exact absurd (.inl hc) (A1 ht)
    refine k2 ?_
    refine A3 (A2 (F8 Z) Z (E9 (C0 TySz.out Z Z Z Z Z Z) (A2 (A5 Z Z) Z (A6 ?_))))
    refine k1 ?_
    refine F5 (I73 CHunk 2 K4 2 3 Z Z) ?_
    refine k10 (k11 ?_)
    exact B5 (rs:=[K9 comb0,E6 4]) (R6 rfl rfl rfl rfl rfl rfl rfl) (hfail hS rfl)
theorem D96 {c:Comb} (hc:G5 c=0) (hw:(O9 c).length≤600000):FnOk Tryz.prog 36 [F3 (O9 c)] (fun rs=>rs=[K9 c,E6 0]):=by
 have h:=D12 (O9 c) hw
 unfold F01 at h
 rw [I11 (fun p hg=>G47 hg) hc] at h
 exact h
theorem D97:FnOk Tryz.prog 39 [] (fun rs=>rs=[E0 true]):=by
 have hf:H4 3=[51]:=by rw [C47 (by decide) (by decide),Lib.decDigits,dif_pos (by decide)];rfl
 have e1:O9 ⟨[120],true,3,[]⟩=[100,105,102,102,32,45,45,99,99,32,120,10,112,97,114,101,110,116,115,32,51,10]:=by
  show (((u9 true++H2 [120]++[10])::(parS++H4 3++[10])::([]:List Str))).flatten=_
  rw [hf];decide
 have e2:G5 ⟨[120],true,3,[]⟩=0:=by
  unfold G5
  rw [e1];decide
 have hp:=D96 (c:=⟨[120],true,3,[]⟩) e2 (by rw [e1];decide)
 rw [e1] at hp
 have hr1:=F43 [45,32,98,10] 2
 have hr2:=F43 [43,45,120] 2
 rw [C77 (show A12 [45,32,98,10] 2=some ⟨true,1,[98,10]⟩ by decide)] at hr1
 rw [A45 (show A12 [43,45,120] 2=none by decide)] at hr2
 refine FnOk.intro Tryz.func39 (by decide) Z Z Z Z ?_
 refine k2 ?_
 refine A3 (A2 (A5 Z Z) Z (A6 ?_))
 refine k1 (k2 ?_)
 refine A3 (B9 (hr1) Z Z Z ?_);rintro _ rfl;refine A2 (A4 Z Z) Z (A2 (B2 Z Z) Z (A2 (B2 Z Z) Z (C3 (H1 1 Z) Z (E9 (C0 TySz.out Z Z Z Z Z Z) (A2 (A5 Z Z) Z (A6 ?_))))))
 refine k1 (k2 ?_)
 refine A3 (B9 (hr2) Z Z Z ?_);rintro _ rfl;refine A2 (A4 Z Z) Z (A2 (B2 Z Z) Z (A2 (B2 Z Z) Z (C3 (H1 3 Z) Z (E9 (C0 TySz.out Z Z Z Z Z Z) (A2 (A5 Z Z) Z (A6 ?_))))))
 refine k1 (k2 ?_)
 refine A3 (B9 (hp) Z Z Z ?_);rintro _ rfl;refine A2 (A4 Z Z) Z (A2 (B2 Z Z) Z (A2 (B2 Z Z) Z (C3 (H1 5 Z) Z (E9 (C0 TySz.out Z Z Z Z Z Z) (A2 (A5 Z Z) Z (A6 ?_))))))
 refine k1 (k2 ?_)
 refine A3 (A2 (A4 Z Z) Z (A2 (A4 Z Z) Z (A9 Z Z Z Z (fun hg=>by rw [hg];exact A4 Z Z) ?_)));refine A9 Z Z Z Z (fun hg=>by rw [hg];exact F0 Z) ?_;refine A2 (B4 Z (fun h=>by first | rfl | (rw [h];rfl)) (fun h=>by first | rfl | (rw [h];rfl))) Z ?_;refine A2 (A4 Z Z) Z (A9 Z Z Z Z (fun hg=>by rw [hg];exact D4 Z Z Z) ?_);refine A9 Z Z Z Z (fun hg=>by rw [hg];exact F8 Z) ?_;refine A9 Z Z Z Z (fun hg=>by rw [hg];exact I29 (rowV ⟨true,1,[98,10]⟩) (rowV ⟨true,1,[98,10]⟩) Z Z Z Z ((row_eq _ _).trans (decide_eq_true Z))) ?_;refine A2 (B4 Z (fun h=>by first | rfl | (rw [h];rfl)) (fun h=>by first | rfl | (rw [h];rfl))) Z ?_;refine A2 (A4 Z Z) Z (A9 Z Z Z Z (fun hg=>by rw [hg];exact A4 Z Z) ?_);refine A9 Z Z Z Z (fun hg=>by rw [hg];exact F6 Z Z) ?_;refine A2 (B4 Z (fun h=>by first | rfl | (rw [h];rfl)) (fun h=>by first | rfl | (rw [h];rfl))) Z ?_;refine A2 (A4 Z Z) Z (A9 Z Z Z Z (fun hg=>by rw [hg];exact A7 Z) ?_);refine A9 Z Z Z Z (fun hg=>by rw [hg];exact B0 Z Z Z) ?_;refine A9 Z Z Z Z (fun hg=>by rw [hg];exact F6 Z Z) ?_;refine A2 (B4 Z (fun h=>by first | rfl | (rw [h];rfl)) (fun h=>by first | rfl | (rw [h];rfl))) Z ?_;refine A2 (A4 Z Z) Z (A9 Z Z Z Z (fun hg=>by rw [hg];exact A7 Z) ?_);refine A9 Z Z Z Z (fun hg=>by rw [hg];exact B0 Z Z Z) ?_;refine A2 (B4 Z (fun h=>by first | rfl | (rw [h];rfl)) (fun h=>by first | rfl | (rw [h];rfl))) Z ?_;refine A2 (A4 Z Z) Z (A9 Z Z Z Z (fun hg=>by rw [hg];exact A7 Z) ?_);refine A9 Z Z Z Z (fun hg=>by rw [hg];exact B0 Z Z Z) ?_;refine A9 Z Z Z Z (fun hg=>by rw [hg];exact V3 Z Z) ?_;refine A2 (B4 Z (fun h=>by first | rfl | (rw [h];rfl)) (fun h=>by first | rfl | (rw [h];rfl))) Z ?_;refine A2 (A5 Z Z) Z (A6 ?_)
 refine k1 (k10 ?_)
 exact B5 (rs:=[E0 true]) (F2 rfl rfl rfl) rfl
set_option maxHeartbeats 1000000
end Go.Proofs.YtgejaedjnbjpoaaGreatDoor
namespace Go.Proofs.YtgejaedjnbjpoaaGreatDoor
open Go Go.AL
set_option maxRecDepth 100000
set_option maxHeartbeats 1000000
set_option maxHeartbeats 2000000
end Go.Proofs.YtgejaedjnbjpoaaGreatDoor
namespace Go.Proofs.YtgejaedjnbjpoaaGreatDoor
open Go Go.AL
set_option maxRecDepth 100000
set_option maxHeartbeats 1000000
theorem G87 (s:Str) (what pos c:Int) (hs:s.length≤1099511627776):FnOk Tryz.prog 35 [F3 s,E6 what,E6 pos,E6 c]
  (fun rs=>∃t:Str,rs=[F3 t]∧t.length≤s.length+1):=by
 obtain ⟨a1,a2⟩:=Z0 pos (n:=(s.length:Int)+1) (by omega)
 obtain ⟨i,hi⟩:∃i:Nat,O3 pos ((s.length:Int)+1)=i:=⟨(O3 pos ((s.length:Int)+1)).toNat,by omega⟩
 have hM:=B21 pos ((s.length:Int)+1) (by omega) (by omega)
 rw [hi] at hM a1 a2
 have hil:i≤s.length:=by omega
 obtain ⟨x,hx⟩:∃x,x=O3 what 4:=⟨_,rfl⟩
 have hW:=B21 what 4 (by omega) (by omega)
 rw [←hx] at hW
 obtain ⟨d,hd⟩:∃d:UInt8,IntKind.u8.wrap c=(d.toNat:Int):=by
  refine ⟨UInt8.ofNat (IntKind.u8.wrap c).toNat,?_⟩
  have hw:IntKind.u8.wrap c=c % 256:=rfl
  rw [hw,UInt8.toNat_ofNat']
  omega
 refine FnOk.intro Tryz.func35 (by decide) Z Z Z Z ?_
 refine k2 ?_
 refine A3 (A2 (A5 Z Z) Z (A6 ?_))
 refine k1 (k2 ?_)
 refine A3 (A2 (A4 Z Z) Z (A2 (A4 Z Z) Z (A2 (E4 Z) Z (A2 (C1 Z Z (by omega)) Z (B9 (hM) Z Z Z ?_)))));rintro _ rfl;refine A2 (A5 Z Z) Z (A6 ?_)
 refine k1 (k2 (k2 ?_))
 refine A3 (A2 (A4 Z Z) Z (B9 (hW) Z Z Z ?_));rintro _ rfl;refine A6 ?_
 refine k1 (k3 (k2 ?_))
 refine A3 (A2 (F6 Z Z) Z (A2 (A5 Z Z) Z (A6 ?_)))
 refine k1 ?_
 refine B1 rfl (fun ht=>?_) (fun ht=>?_)
 ·refine k2 ?_
  refine C4 (by kernel_rfl) (by kernel_rfl) (A8 (A4 Z Z) Z Z (A8 (A4 Z Z) Z Z (A8 (y2 Z Z (by omega) (by omega)) Z Z (A8 (A4 Z Z) Z Z (A8 (J4 Z) Z Z ?_)))));rw [hd];refine A8 (C9 (c:=u8C) (ys:=[_]) (E1 Z Z Z Z F4) Z Z Z) Z Z (A8 (N5 TyStr.out Z (.pure _ _ _ _)) Z Z (A8 (D9 Z Z (by simp;omega)) Z Z (A8 (A4 Z Z) Z Z (A8 (A4 Z Z) Z Z (A8 (y3 Z Z (by omega) (by omega)) Z Z (A8 (D9 Z Z (by simp;omega)) Z Z (A8 (A5 Z Z) Z Z (H9 ?_))))))))
  refine k1 (k10 (k12 (k11 ?_)))
  exact B5 (F2 rfl rfl rfl) ⟨_,rfl,by simp;omega⟩
 refine k2 ?_
 refine A3 (A2 (F6 Z Z) Z (A2 (A5 Z Z) Z (A6 ?_)))
 refine k1 ?_
 refine B1 rfl (fun ht=>?_) (fun ht=>?_)
 ·refine k2 ?_
  refine C4 (by kernel_rfl) (by kernel_rfl) (A8 (A4 Z Z) Z Z (A8 (A4 Z Z) Z Z (A8 (y2 Z Z (by omega) (by omega)) Z Z (A8 (A4 Z Z) Z Z (A8 (A4 Z Z) Z Z (A8 (C1 Z Z (by omega)) Z Z (A8 (A4 Z Z) Z Z (A8 (E4 Z) Z Z (A8 (E66 Z Z) Z Z (A8 (y3 Z Z (by omega) (by omega)) Z Z (A8 (D9 Z Z (by simp;omega)) Z Z (A8 (A5 Z Z) Z Z (H9 ?_)))))))))))))
  refine k1 (k10 (k12 (k11 ?_)))
  exact B5 (F2 rfl rfl rfl) ⟨_,rfl,by simp;omega⟩
 refine k2 ?_
 refine A3 (A2 (F6 Z Z) Z (A2 (A5 Z Z) Z (A6 ?_)))
 refine k1 ?_
 refine B1 rfl (fun ht=>?_) (fun ht=>?_)
 ·refine k2 ?_
  refine C4 (by kernel_rfl) (by kernel_rfl) (A8 (A4 Z Z) Z Z (A8 (A4 Z Z) Z Z (A8 (y2 Z Z (by omega) (by omega)) Z Z (A8 (A4 Z Z) Z Z (A8 (J4 Z) Z Z ?_)))));rw [hd];refine A8 (C9 (c:=u8C) (ys:=[_]) (E1 Z Z Z Z F4) Z Z Z) Z Z (A8 (N5 TyStr.out Z (.pure _ _ _ _)) Z Z (A8 (D9 Z Z (by simp;omega)) Z Z (A8 (A4 Z Z) Z Z (A8 (A4 Z Z) Z Z (A8 (C1 Z Z (by omega)) Z Z (A8 (A4 Z Z) Z Z (A8 (E4 Z) Z Z (A8 (E66 Z Z) Z Z (A8 (y3 Z Z (by omega) (by omega)) Z Z (A8 (D9 Z Z (by simp;omega)) Z Z (A8 (A5 Z Z) Z Z (H9 ?_))))))))))))
  refine k1 (k10 (k12 (k11 ?_)))
  exact B5 (F2 rfl rfl rfl) ⟨_,rfl,by simp;omega⟩
 refine k5 (k2 ?_)
 refine A3 (A2 (A4 Z Z) Z (A2 (A5 Z Z) Z (A6 ?_)))
 refine k1 (k10 ?_)
 exact B5 (F2 rfl rfl rfl) ⟨_,rfl,by omega⟩
set_option maxHeartbeats 1000000
theorem H90 {s:Str} (hs:s.length≤600000):szC (Q4 Q3 s).1.Hunks≤268435456:=by
 by_cases h:(Q4 Q3 s).2=0
 ·unfold Q4 at h ⊢
  split at h
  ·cases h
  ·rename_i h1
   rw [if_neg h1]
   split at h
   ·cases h
   ·rename_i l hl
    split at h
    ·cases h
    ·rename_i p hp
     split at h
     ·cases h
     ·rename_i h2
      rw [if_neg h2]
      have:=(C78 hp).2.1
      have:=G20 hl
      dsimp only
      omega
 ·rw [E25 h]
  split<;>exact Nat.zero_le _
set_option maxHeartbeats 1000000
def A07 (raw:List Int) (n:Int):List Str:=X9 raw (2+O3 n 4).toNat 7
theorem G21 (raw:List Int) (n:Int):∃x r,A07 raw n=x::r∧x.length≤140∧∀b∈r,b.length≤140:=by
 have hm:=Z0 n (n:=4) (by omega)
 have hl:(A07 raw n).length=(2+O3 n 4).toNat:=by simp [A07,X9]
 have hb:∀b∈A07 raw n,b.length≤140:=by
  intro b hb
  obtain ⟨p,_,rfl⟩:=List.mem_map.1 hb
  have:=D80 raw 7 p (by omega);omega
 cases h:A07 raw n with
 | nil=>rw [h] at hl;simp at hl;omega
 | cons x r=>exact ⟨x,r,rfl,hb x (by rw [h];simp),fun b hb'=>hb b (by rw [h];simp [hb'])⟩
def l4 (path result:Str) (parents:List Str) (ctx:Int) (d:Bool):Comb × Int :=
 if T0 path=false then (comb0,120) else if (I9 result parents).2≠0 then (comb0,(I9 result parents).2) else
 if (S4 (I9 result parents).1 ctx d).2≠0 then (comb0,(S4 (I9 result parents).1 ctx d).2) else A52 path (I9 result parents).1 (S4 (I9 result parents).1 ctx d).1 d
theorem G22:∀s∈lineTab,s.count 10=0:=by decide
theorem D98 (k:Int):(o8 k).count 10=0:=by
 unfold o8
 rw [J06]
 cases h:lineTab[(O3 k 10).toNat]? with
 | none=>rfl
 | some s=>exact G22 s (J22 h)
theorem E53 (raw:List Int) (from' kinds:Int) (m:Nat):(R2 raw from' kinds m).count 10=m:=by
 induction m with
 | zero=>simp [R2]
 | succ m ih=>rw [A03,J48,J48,ih,D98];rfl
theorem D99 (raw:List Int) (from' n kinds:Int) (h1:0≤n):((U8 raw from' n kinds).count 10:Int)≤n:=by
 have h:=Z0 (j7 raw from') (n:=n+1) (by omega)
 have h2:=E53 raw from' kinds (O3 (j7 raw from') (n+1)).toNat
 have h3:=(List.take_sublist ((R2 raw from' kinds (O3 (j7 raw from') (n+1)).toNat).length - 1) (R2 raw from' kinds (O3 (j7 raw from') (n+1)).toNat)).count_le (a:=(10:UInt8))
 unfold U8
 simp only
 split
 ·omega
 ·omega
theorem A68 (raw:List Int) (from':Int):∀(l:List Str) (i:Nat) (s:Str),(j8 raw from' i s l).count 10≤s.count 10+l.flatten.count 10+l.length
 | [],i,s=>by simp [j8]
 | x::r,i,s=>by
  have h1:=A68 raw from' r (i+1) s
  have h2:=A68 raw from' r (i+1) (s++o8 (j7 raw (from'+40+(i:Int)))++[10]++x)
  have h3:=A68 raw from' r (i+1) (s++x)
  have h4:=D98 (j7 raw (from'+40+(i:Int)))
  have h5:List.count (10:UInt8) [10]=1:=rfl
  simp only [J48,h4,h5] at h2 h3
  unfold j8
  simp only [J14,J48,J02]
  split
  ·omega
  ·split<;>omega
theorem G88 (raw:List Int) (p:Nat):(o9 raw 7 p).count 10≤15:=by
 have h1:=D99 raw (600+50*(p:Int)) 7 4 (by omega)
 have h2:=D99 raw 0 7 5 (by omega)
 have h3:=A68 raw (600+50*(p:Int)) (C8 (U8 raw 0 7 5)) 0 []
 have h4:=D30 (U8 raw 0 7 5)
 rw [U3] at h3
 have h5:List.count (10:UInt8) ([]:Str)=0:=rfl
 unfold o9
 split
 ·omega
 ·split
  ·omega
  ·unfold B88;omega
theorem G89 (raw:List Int) (n:Int):∀b∈A07 raw n,(C8 b).length≤16∧b.length≤140:=by
 intro b hb
 obtain ⟨p,_,rfl⟩:=List.mem_map.1 hb
 have h1:=D80 raw 7 p (by omega)
 have h2:=G88 raw p
 have h3:=D30 (o9 raw 7 p)
 omega
theorem I46 (raw:List Int) (n:Int) {x:Str} {r:List Str} (h:A07 raw n=x::r):1≤r.length∧r.length≤4:=by
 have hm:=Z0 n (n:=4) (by omega)
 have hl:(A07 raw n).length=(2+O3 n 4).toNat:=by simp [A07,X9]
 rw [h,J02] at hl
 omega
structure Small16 (x:Str) (r:List Str):Prop where
 n:1≤r.length∧r.length≤4
 hx:x.length≤140
 hr:∀b∈r,b.length≤140
 rows:I8 (I9 x r).1.Rows
 len:(I9 x r).1.Rows.length≤1105
 txt:∀q∈(I9 x r).1.Rows,q.Text.length≤140
theorem G90 {raw:List Int} {n:Int} {x:Str} {r:List Str} (h:A07 raw n=x::r):Small16 x r:=by
 have h1:=I46 raw n h
 have h2:=G89 raw n
 rw [h] at h2
 have hx:=h2 x (by simp)
 have hr:∀b∈r,(C8 b).length≤16∧b.length≤140:=fun b hb=>h2 b (by simp [hb])
 obtain ⟨k1,k2,k3⟩:=F74 x r 16 140 hx hr
 have h4:r.length*16+1≤65:=by omega
 exact ⟨h1,hx.2,fun b hb=>(hr b hb).2,k1,by omega,k3⟩
theorem textsLen_le {rows:List Row} {B:Nat} (h:∀q∈rows,q.Text.length≤B):N9 rows≤rows.length*B∧(rows.map M9).sum≤rows.length*(B+96)∧∀n,(rows.map (E60 n)).sum≤rows.length*(B+n+29):=by
 unfold N9
 induction rows with
 | nil=>simp
 | cons x r ih =>
  obtain ⟨i1,i2,i3⟩:=ih fun q hq=>h q (by simp [hq])
  have hx:=h x (by simp)
  simp only [J08,J14,J01,J28,J02,J30,Nat.one_mul]
  simp only [Nat.mul_add] at i2 i3 ⊢
  refine ⟨by omega,by unfold M9 at i2 ⊢;omega,fun n=>?_⟩
  have:=i3 n
  unfold E60 at this ⊢
  omega
theorem Small16.sums {x:Str} {r:List Str} (h:Small16 x r):N9 (I9 x r).1.Rows≤154700∧((I9 x r).1.Rows.map M9).sum≤260780∧∀n,n≤32→((I9 x r).1.Rows.map (E60 n)).sum≤1105*201:=by
 obtain ⟨h1,h2,h3⟩:=textsLen_le h.txt
 have h4:=h.len
 refine ⟨by omega,by omega,fun n hn=>?_⟩
 refine Nat.le_trans (h3 n) ?_
 exact Nat.mul_le_mul h4 (by omega)
theorem G91 (path x:Str) (r:List Str) (ctx:Int) (d:Bool) (h:Small16 x r):FnOk Tryz.prog 48 [F3 path,F3 x,j2 r,E6 ctx,E0 d] (fun rs=>rs=[K9 (l4 path x r ctx d).1,E6 (l4 path x r ctx d).2]):=by
 have hx:=h.hx
 obtain ⟨s1,s2,s3⟩:=h.sums
 have hl:=h.len
 have hrows:=h.rows
 have hm:=H80 x r (by omega) (fun b hb=>by have:=h.hr b hb;omega)
 obtain ⟨t,e,hte⟩:∃t e,I9 x r=(t,e):=⟨_,_,rfl⟩
 rw [hte] at s1 s2 hl hrows hm
 dsimp only at s1 s2 hl hrows hm
 have hh:=G12 t ctx d hrows (by omega) (by omega)
 have hin:=I68 t ctx d
 obtain ⟨sp,e2,hsp⟩:∃sp e2,S4 t ctx d=(sp,e2):=⟨_,_,rfl⟩
 rw [hsp] at hh hin
 dsimp only at hh hin
 have hc:=rcut_ok path t sp d hrows (by omega) (by omega) (by have:=hin.1;omega)
 have hres:l4 path x r ctx d=if T0 path=false then (comb0,120) else if e≠0 then (comb0,e) else if e2≠0 then (comb0,e2) else A52 path t sp d:=by
  unfold l4;rw [hte];dsimp only;rw [hsp]
 rw [hres]
 refine FnOk.intro Tryz.func48 (by decide) Z Z Z Z ?_
 refine k2 ?_
 refine A3 (C3 (H1 10 Z) Z (A2 (A5 Z Z) Z (A6 ?_)))
 refine k1 (k2 (k2 ?_))
 refine A3 (A2 (A4 Z Z) Z (B9 (D88 path) Z Z Z ?_));rintro _ rfl;refine A2 (F0 Z) Z (A6 ?_)
 refine k1 ?_
 refine B1 rfl (fun ht=>?_) (fun ht=>?_)
 ·have h:T0 path=false:=by simpa using ht
  refine k2 ?_
  refine A3 (A2 (F8 Z) Z (E9 (C0 TySz.out Z Z Z Z Z Z) (A2 (A5 Z Z) Z (A6 ?_))))
  refine k1 ?_
  refine F5 (I73 CHunk 2 K4 10 3 Z Z) ?_
  refine k10 (k11 ?_)
  exact B5 (rs:=[K9 comb0,E6 120]) (R6 rfl rfl rfl rfl rfl rfl rfl) (by rw [if_pos h])
 have h1:T0 path=true:=by simpa using ht
 rw [if_neg (by rw [h1];decide)]
 refine k5 (k1 (k2 ?_))
 refine A3 (A2 (A4 Z Z) Z (A2 (A4 Z Z) Z (B9 (hm) Z Z Z ?_)));rintro _ rfl;refine A2 (A4 Z Z) Z (A2 (B2 Z Z) Z (A2 (B2 Z Z) Z (C3 (H1 12 Z) Z (E9 (C0 TySz.out Z Z Z Z Z Z) (A2 (A5 Z Z) Z (A6 ?_))))))
 refine k1 (k2 (k2 ?_))
 refine A3 (A2 (A4 Z Z) Z (A2 (M5 Z Z) Z (A6 ?_)))
 refine k1 ?_
 refine B1 rfl (fun ht=>?_) (fun ht=>?_)
 ·have h2:=A0 ht
  refine k2 ?_
  refine A3 (A2 (F8 Z) Z (A2 (A4 Z Z) Z (E9 (C0 TySz.out Z Z Z Z Z Z) (A2 (A5 Z Z) Z (A6 ?_)))))
  refine k1 ?_
  refine F5 (I73 CHunk 2 K4 10 3 Z Z) ?_
  refine k10 (k11 ?_)
  exact B5 (rs:=[K9 comb0,E6 e]) (R6 rfl rfl rfl rfl rfl rfl rfl) (by rw [if_pos h2])
 have h2:=A1 ht
 rw [if_neg h2]
 refine k5 (k1 (k2 ?_))
 refine A3 (A2 (D4 Z Z Z) Z (A2 (A4 Z Z) Z (A2 (A4 Z Z) Z (B9 (hh) Z Z Z ?_))));rintro _ rfl;refine A2 (A4 Z Z) Z (A2 (B2 Z Z) Z (A2 (B2 Z Z) Z (A2 (A5 Z Z) Z (A2 (A5 Z Z) Z (A6 ?_)))))
 refine k1 (k2 (k2 ?_))
 refine A3 (A2 (A4 Z Z) Z (A2 (M5 Z Z) Z (A6 ?_)))
 refine k1 ?_
 refine B1 rfl (fun ht=>?_) (fun ht=>?_)
 ·have h3:=A0 ht
  refine k2 ?_
  refine A3 (A2 (F8 Z) Z (A2 (A4 Z Z) Z (E9 (C0 TySz.out Z Z Z Z Z Z) (A2 (A5 Z Z) Z (A6 ?_)))))
  refine k1 ?_
  refine F5 (I73 CHunk 2 K4 10 3 Z Z) ?_
  refine k10 (k11 ?_)
  exact B5 (rs:=[K9 comb0,E6 e2]) (R6 rfl rfl rfl rfl rfl rfl rfl) (by rw [if_pos h3])
 have h3:=A1 ht
 rw [if_neg h3]
 refine k5 (k1 (k2 ?_))
 refine A3 (A2 (A4 Z Z) Z (A2 (D4 Z Z Z) Z (A2 (A4 Z Z) Z (A2 (A4 Z Z) Z (B9 (hc) Z Z Z ?_)))));rintro _ rfl;refine A2 (B2 Z Z) Z (A2 (B2 Z Z) Z (E9 (C0 TySz.out Z Z Z Z Z Z) (A2 (A5 Z Z) Z (A6 ?_))))
 refine k1 (k10 ?_)
 exact B5 (R6 rfl rfl rfl rfl rfl rfl rfl) rfl
theorem cut18_w {path:Str} {t:Table} {sp:List Span} {d:Bool} (h:(A52 path t sp d).2=0):T0 path=true∧R7 t=0∧∃hs,w7 t.Parents.toNat t.Rows 0 [] sp=some hs∧G5 ⟨path,d,t.Parents,hs⟩=0∧A52 path t sp d=(⟨path,d,t.Parents,hs⟩,0):=by
 unfold A52 at h ⊢
 split at h
 ·cases h
 ·rename_i h1
  rw [if_neg h1]
  split at h
  ·rename_i h2;exact absurd h h2
  ·rename_i h2
   rw [if_neg h2]
   refine ⟨by simpa using h1,by omega,?_⟩
   cases hg:w7 t.Parents.toNat t.Rows 0 [] sp with
   | none=>rw [hg] at h;cases h
   | some hs =>
    rw [hg] at h
    dsimp only at h ⊢
    split at h
    ·rename_i h3;exact absurd h h3
    ·rename_i h3
     exact ⟨hs,rfl,by omega,by rw [if_neg h3]⟩
theorem H91 {path x:Str} {r:List Str} {ctx:Int} {d:Bool} (h:(l4 path x r ctx d).2=0):(I9 x r).2=0∧(S4 (I9 x r).1 ctx d).2=0∧l4 path x r ctx d=A52 path (I9 x r).1 (S4 (I9 x r).1 ctx d).1 d:=by
 unfold l4 at h ⊢
 split at h
 ·cases h
 ·rename_i h1
  rw [if_neg h1]
  split at h
  ·rename_i h2;exact absurd h h2
  ·rename_i h2
   rw [if_neg h2]
   split at h
   ·rename_i h3;exact absurd h h3
   ·rename_i h3
    rw [if_neg h3]
    exact ⟨by omega,by omega,rfl⟩
theorem G92 {path x:Str} {r:List Str} {ctx:Int} {d:Bool} (h:(l4 path x r ctx d).2≠0):(l4 path x r ctx d).1=comb0:=by
 unfold l4 at h ⊢
 split
 ·rfl
 ·rename_i h1
  rw [if_neg h1] at h
  split
  ·rfl
  ·rename_i h2
   rw [if_neg h2] at h
   split
   ·rfl
   ·rename_i h3
    rw [if_neg h3] at h
    unfold A52 at h ⊢
    split
    ·rfl
    ·rename_i h4
     rw [if_neg h4] at h
     split
     ·rfl
     ·rename_i h5
      rw [if_neg h5] at h
      cases hg:w7 (I9 x r).1.Parents.toNat (I9 x r).1.Rows 0 [] (S4 (I9 x r).1 ctx d).1 with
      | none=>rfl
      | some hs =>
       rw [hg] at h
       dsimp only at h ⊢
       split
       ·rfl
       ·rename_i h6
        rw [if_neg h6] at h;exact absurd rfl h
theorem H92:CFit comb0:=⟨⟨by decide,by decide⟩,by decide,by decide,(fun h hh=>by cases hh),fun h hh=>by cases hh⟩
theorem G93 {path x:Str} {r:List Str} {ctx:Int} {d:Bool} (hp:path.length≤400) (h:Small16 x r):CFit (l4 path x r ctx d).1∧(O9 (l4 path x r ctx d).1).length≤420000:=by
 by_cases he:(l4 path x r ctx d).2=0
 ·obtain ⟨_,_,e1⟩:=H91 he
  rw [e1] at he ⊢
  obtain ⟨_,c1,hs,c2,c3,e2⟩:=cut18_w he
  obtain ⟨s1,s2,s3⟩:=h.sums
  obtain ⟨n1,n2⟩:=D11 c1
  obtain ⟨z1,z2⟩:=H37 (n:=(I9 x r).1.Parents.toNat) (by omega) h.rows (by omega) c2
  rw [e2]
  dsimp only
  refine ⟨D93 c3 z1 z2,?_⟩
  have hw:=G54 ⟨path,d,(I9 x r).1.Parents,hs⟩
  dsimp only at hw
  obtain ⟨n,hn⟩:∃n:Nat,(I9 x r).1.Parents=n:=⟨(I9 x r).1.Parents.toNat,by omega⟩
  have hnr:(I9 x r).1.Parents=r.length∨(I9 x r).1.Parents=0:=by
   unfold I9
   split
   ·exact .inr rfl
   ·dsimp only
    split
    ·exact .inr rfl
    ·exact .inl rfl
  have hr4:=h.n
  rw [hn,J09] at hw c2
  rw [hn]
  have hn4:n≤4:=by omega
  have h1:=F73 (E60 n) (28*(n+1)+2) n (I9 x r).1.Rows (S4 (I9 x r).1 ctx d).1 0 [] hs (Int.le_refl _) c2 (by simp) (by simp)
  have h2:=h1.1
  have h3:=h1.2
  have h4:=s3 n (by omega)
  have h5:=h.len
  simp only [J05] at h3
  have h6:(28*(n+1)+2)*hs.length≤142*1105:=Nat.mul_le_mul (by omega) (by omega)
  omega
 ·rw [G92 he]
  exact ⟨H92,by have:=G54 comb0;have e1:comb0.Path.length=0:=rfl;have e2:comb0.Hunks=[]:=rfl;rw [e1,e2] at this;simp only [J37,J53] at this;omega⟩
theorem H93 (raw:List Int) (n ctx:Int) (d:Bool):FnOk Tryz.prog 34 [S6 raw,E6 n,E6 ctx,E0 d] (fun rs=>∃(c:Comb) (s:Str),rs=[K9 c,F3 s]∧s.length≤420000):=by
 obtain ⟨x,r,hpk,_,_⟩:=G21 raw n
 have hsm:=G90 hpk
 have hm:=Z0 n (n:=4) (by omega)
 have hlen:(x::r).length=(2+O3 n 4).toNat:=by rw [←hpk];simp [A07,X9]
 have hb:=I34 raw (2+O3 n 4).toNat 7 (by omega) (by omega)
 have hcast:(((2+O3 n 4).toNat:Nat):Int)=2+O3 n 4:=by omega
 rw [hcast] at hb
 have hbr:X9 raw (2+O3 n 4).toNat 7=x::r:=hpk
 rw [hbr] at hb
 have hM:=G91 [120,32,121] x r (O3 ctx 3) d hsm
 obtain ⟨f1,f2⟩:=G93 (path:=[120,32,121]) (ctx:=O3 ctx 3) (d:=d) (by decide) hsm
 have hW:=D10 _ f1
 obtain ⟨c,e,hce⟩:∃c e,l4 [120,32,121] x r (O3 ctx 3) d=(c,e):=⟨_,_,rfl⟩
 rw [hce] at hM hW f2
 dsimp only at hM hW f2
 obtain ⟨w,hw⟩:∃w,w=O9 c:=⟨_,rfl⟩
 rw [←hw] at hW f2
 refine FnOk.intro Tryz.func34 (by decide) Z Z Z Z ?_
 refine k2 ?_
 refine A3 (C3 (H1 8 Z) Z (A2 (A5 Z Z) Z (A6 ?_)))
 refine k1 (k2 ?_)
 refine A3 (A2 (A4 Z Z) Z (A2 (A4 Z Z) Z (B9 (B21 n 4 (by omega) (by omega)) Z Z Z ?_)));rintro _ rfl;refine A2 (C1 Z Z (by omega)) Z (B9 (hb) Z Z Z ?_);rintro _ rfl;refine A2 (A5 Z Z) Z (A6 ?_)
 refine k1 (k2 ?_)
 refine F32 [13,12] [[],[12],[13,12]] [(0,[12]),(1,[12]),(2,[12]),(3,[12]),(4,[12]),(5,[12]),(6,[12]),(7,[12]),(8,[12]),(9,[12]),(10,[12]),(11,[12]),(11,[13,12])] (by kernel_rfl) (by kernel_rfl) (A43 Z (A4 Z Z) (A43 Z (B3 Z (.pure _ _ _ _) Z (by omega) (show (x::r)[(0:Int).toNat]?=some x from Z)) (A43 Z (B6 Z Z) (A43 Z (A4 Z Z) (A43 Z (C57 Z (.pure _ _ _ _) Z (by (first | omega | (simp only [J02];omega))) (by (first | omega | (simp only [J02];omega)))) (A43 Z (A4 Z Z) (A43 Z (G9 (B21 ctx 3 (by omega) (by omega)) Z Z) (A43 Z (A4 Z Z) (A43 Z (G9 (hM) Z Z) (A43 Z (A4 Z Z) (A43 Z (B2 Z Z) (A43 Z (B2 Z Z) (a_alloc 11 Z Z (a_store (F86 TySz.out Z Z Z Z Z Z) (A43 Z (A5 Z Z) ?_)))))))))))))));refine a_nil rfl ?_ ?_
 ·refine A44 Z Z (A4 Z Z) (A44 Z Z (B3 Z (.pure _ _ _ _) Z (by omega) (show (x::r)[(0:Int).toNat]?=some x from Z)) (A44 Z Z (B6 Z Z) (A44 Z Z (A4 Z Z) (A44 Z Z (C57 Z (.pure _ _ _ _) Z (by (first | omega | (simp only [J02];omega))) (by (first | omega | (simp only [J02];omega)))) (A44 Z Z (A4 Z Z) (A44 Z Z (G9 (B21 ctx 3 (by omega) (by omega)) Z Z) (A44 Z Z (A4 Z Z) (A44 Z Z (G9 (hM) Z Z) (A44 Z Z (A4 Z Z) (A44 Z Z (B2 Z Z) (A44 Z Z (B2 Z Z) (A44 Z Z (B2 Z Z) ?_))))))))))));exact o_nil
 refine k1 (k2 ?_)
 refine C4 (by kernel_rfl) (by kernel_rfl) (A8 (D4 Z Z Z) Z Z (A8 (D4 Z Z Z) Z Z (A8 (G9 (hW) Z Z) Z Z (C10 (C0 TySz.out Z Z Z Z Z Z) Z (A8 (A5 Z Z) Z Z (H9 ?_))))))
 refine k1 (k10 ?_)
 exact B5 (rs:=[K9 c,F3 w]) (R6 rfl rfl rfl rfl rfl rfl rfl) ⟨c,w,rfl,f2⟩
theorem H94 {s:Str}:∀h∈(Q4 Q3 s).1.Hunks,I8 h.Rows:=by
 by_cases h:(Q4 Q3 s).2=0
 ·unfold Q4 at h ⊢
  split at h
  ·cases h
  ·rename_i h1
   rw [if_neg h1]
   split at h
   ·cases h
   ·rename_i l hl
    split at h
    ·cases h
    ·rename_i p hp
     split at h
     ·cases h
     ·rename_i h2
      rw [if_neg h2]
      exact fun x hx=>((C78 hp).2.2 x hx).2
 ·rw [E25 h]
  split<;>exact fun x hx=>by cases hx
set_option maxHeartbeats 1000000
theorem D36 (raw:List Int) (n ctx:Int) (dn:Bool) (what pos c:Int) (s:Str):FnOk Tryz.prog 9 [S6 raw,E6 n,E6 ctx,E0 dn,E6 what,E6 pos,E6 c,F3 s] (fun rs=>rs=[E0 true]):=by
 refine FnOk.intro Tryz.func9 (by decide) Z Z Z Z ?_
 refine k2 ?_
 refine A3 (A2 (A5 Z Z) Z (A6 ?_))
 refine k1 (k2 (k2 ?_))
 refine A3 (A2 (A4 Z Z) Z (A2 (E4 Z) Z (A2 (N2 Z Z) Z (A6 ?_))))
 refine k1 ?_
 refine B1 rfl (fun ht=>?_) (fun ht=>?_)
 ·refine k2 ?_
  refine A3 (B9 (D97) Z Z Z ?_);rintro _ rfl;refine A2 (A5 Z Z) Z (A6 ?_)
  refine k1 (k10 (k11 ?_))
  exact B5 (F2 rfl rfl rfl) rfl
 have hsl:s.length≤120:=by have:=A1 ht;omega
 refine k5 (k1 (k2 ?_))
 refine A3 (A2 (A4 Z Z) Z (A2 (A4 Z Z) Z (A2 (A4 Z Z) Z (A2 (A4 Z Z) Z (B9 (H93 raw n ctx dn) Z Z Z ?_)))));rintro _ ⟨c0,w,rfl,hwl⟩;refine A2 (A4 Z Z) Z (A2 (B2 Z Z) Z (A2 (B2 Z Z) Z (C3 (H1 17 Z) Z (E9 (C0 TySz.out Z Z Z Z Z Z) (A2 (A5 Z Z) Z (A6 ?_))))))
 have hS:=G87 w what pos c (by omega)
 refine k1 (k2 ?_)
 refine A3 (A2 (A4 Z Z) Z (A2 (A4 Z Z) Z (A2 (A4 Z Z) Z (A2 (A4 Z Z) Z (B9 (hS) Z Z Z ?_)))));rintro _ ⟨t0,rfl,htl⟩;refine A2 (A5 Z Z) Z (A6 ?_)
 refine k1 (k2 (k2 ?_))
 refine A3 (A2 (A5 Z Z) Z (A6 ?_))
 refine k1 (k3 ?_)
 refine D3 (X:=Nat × Str) (fun x=>([(7,H5 s),(18,H5 x.2),(19,C2 x.1)],[])) (fun x=>x.1≤2∧x.2.length≤500000) (fun x=>2 - x.1) (0,t0) ⟨by omega,by dsimp only;omega⟩ (I72 ⟨le1 rfl,le1 rfl,le1 rfl,trivial⟩ trivial) ?_
 rintro ⟨i,t⟩ ⟨hi,htl2⟩
 dsimp only at hi htl2 ⊢
 have h1:=D12 t (by omega)
 have z1:=H90 (s:=t) (by omega)
 have z2:=H94 (s:=t)
 unfold F01 at h1
 refine k2 (k2 ?_)
 refine A3 (A2 (A4 Z Z) Z (A2 (D6 Z Z) Z (A6 ?_)))
 refine k1 ?_
 refine B1 rfl (fun ht=>?_) (fun ht=>?_)
 rotate_left
 ·refine k6 (k2 ?_)
  refine A3 (B9 (D97) Z Z Z ?_);rintro _ rfl;refine A2 (A5 Z Z) Z (A6 ?_)
  refine k1 (k10 ?_)
  exact B5 (F2 rfl rfl rfl) rfl
 have hi2:i < 2:=by have:=A0 ht;omega
 obtain ⟨q,hq⟩:∃q,q=Q4 Q3 t:=⟨_,rfl⟩
 rw [←hq] at h1 z1 z2
 refine k5 (k1 (k2 (k3 (k2 ?_))))
 refine A3 (A2 (A4 Z Z) Z (B9 (h1) Z Z Z ?_));rintro _ rfl;refine A2 (A4 Z Z) Z (A2 (B2 Z Z) Z (A2 (B2 Z Z) Z (C3 (H1 20 Z) Z (E9 (C0 TySz.out Z Z Z Z Z Z) (A2 (A5 Z Z) Z (A6 ?_))))))
 refine k1 (k2 (k2 ?_))
 refine A3 (A2 (A4 Z Z) Z (A2 (F6 Z Z) Z (A6 ?_)))
 refine k1 ?_
 refine B1 rfl (fun ht=>?_) (fun ht=>?_)
 ·have hz:q.2=0:=A0 ht
  obtain ⟨c1,c2⟩:=I12 (f:=Q3) (s:=t) (by rw [←hq];exact hz)
  rw [←hq] at c1 c2
  have hF:=D94 q.1 (by omega) z2
  rw [if_pos c1,c2] at hF
  have hU:=C76 q.1 (by omega) z2
  rw [c1] at hU
  refine k2 ?_
  refine A3 (A2 (D4 Z Z Z) Z (B9 (hF) Z Z Z ?_));rintro _ rfl;refine A2 (A4 Z Z) Z (A2 (B2 Z Z) Z (A2 (B2 Z Z) Z (A2 (A5 Z Z) Z (A2 (A5 Z Z) Z (A6 ?_)))))
  refine k1 (k2 ?_)
  refine A3 (A2 (A4 Z Z) Z (A2 (M5 Z Z) Z (A2 (A4 Z Z) Z (A9 Z Z Z Z (fun hg=>by rw [hg];exact A4 Z Z) ?_))));refine A9 Z Z Z Z (fun hg=>by rw [hg];exact A4 Z Z) ?_;refine A9 Z Z Z Z (fun hg=>by rw [hg];exact x9 Z Z) ?_;refine A2 (B4 Z (fun h=>by first | rfl | (rw [h];rfl)) (fun h=>by first | rfl | (rw [h];rfl))) Z ?_;refine A2 (A4 Z Z) Z (A9 Z Z Z Z (fun hg=>by rw [hg];exact D4 Z Z Z) ?_);refine A9 Z Z Z Z (fun hg=>by have hq:=hg;(try simp at hq);rw [hg];exact G9 (hU) Z Z) ?_;refine A9 Z Z Z Z (fun hg=>by rw [hg];exact M5 Z Z) ?_;refine A2 (B4 Z (fun h=>by first | rfl | (rw [h];rfl)) (fun h=>by first | rfl | (rw [h];rfl))) Z ?_;refine A6 ?_
  refine k1 ?_
  refine B1 rfl (fun ht=>?_) (fun ht=>?_)
  ·exfalso;simp at ht
  refine k5 (k1 ?_)
  refine A3 (A2 (A4 Z Z) Z (A2 (D9 Z Z (by simp;omega)) Z (A2 (A5 Z Z) Z (A6 ?_))))
  refine k4 (k1 ?_)
  refine A3 (A2 (A4 Z Z) Z (A2 (C1 Z Z (by omega)) Z (A2 (A5 Z Z) Z (A6 ?_))))
  refine k1 ?_
  exact ⟨(i+1,[100,105,102,102,32,45,45,99,111,109,98,105,110,101,100,32,97,10,112,97,114,101,110,116,115,32,49,10,64,64,32,45,49,32,43,49,44,50,32,64,64,10]++s),⟨by omega,by simp;omega⟩,by dsimp only;omega,I72 ⟨le1 rfl,le1 rfl,le1 rfl,trivial⟩ trivial⟩
 ·skip
  refine k5 (k1 ?_)
  refine A3 (A2 (A4 Z Z) Z (A2 (D9 Z Z (by simp;omega)) Z (A2 (A5 Z Z) Z (A6 ?_))))
  refine k4 (k1 ?_)
  refine A3 (A2 (A4 Z Z) Z (A2 (C1 Z Z (by omega)) Z (A2 (A5 Z Z) Z (A6 ?_))))
  refine k1 ?_
  exact ⟨(i+1,[100,105,102,102,32,45,45,99,111,109,98,105,110,101,100,32,97,10,112,97,114,101,110,116,115,32,49,10,64,64,32,45,49,32,43,49,44,50,32,64,64,10]++s),⟨by omega,by simp;omega⟩,by dsimp only;omega,I72 ⟨le1 rfl,le1 rfl,le1 rfl,trivial⟩ trivial⟩
end Go.Proofs.YtgejaedjnbjpoaaGreatDoor
