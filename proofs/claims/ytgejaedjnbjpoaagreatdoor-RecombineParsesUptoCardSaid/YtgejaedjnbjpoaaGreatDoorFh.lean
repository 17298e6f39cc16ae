/- Walks of the program's functions. -/
import Derived.Test.YtgejaedjnbjpoaaGreatDoorFg
import Derived.Test.YtgejaedjnbjpoaaGreatDoorFe
import Derived.Test.YtgejaedjnbjpoaaGreatDoorFs
import Derived.Test.YtgejaedjnbjpoaaGreatDoorFd
import Derived.Test.YtgejaedjnbjpoaaGreatDoorFf
import Derived.Test.YtgejaedjnbjpoaaGreatDoorFa
namespace Go.Proofs.YtgejaedjnbjpoaaGreatDoor
open Go Go.AL
set_option maxRecDepth 100000
def F07 (w:Str) (d:Bool) (n:Int) (hs:List CHunk):Obs:=match hs.getLast? with
 | some h=>(match h.Rows with
  | []=>Y0 w d n hs
  | _::_=>Y1 w d n hs h.At h.Rows)
 | none=>Y0 w d n hs
section
variable {P:Program} {nt:Nat} {fr:Fr} {w:Str} {d:Bool} {n:Int} {hs:List CHunk}
theorem shutC {h:CHunk} (hf:H3 732 fr=true) (hl:hs.getLast?=some h) (hne:h.Rows≠[]):Sees P nt fr (Y1 w d n hs h.At h.Rows) fr (Y0 w d n hs):=by
 have h1:=Sees.freezeG (P:=P) (nt:=nt) (fr:=fr) (ob:=Y1 w d n hs h.At h.Rows) (k:=732) rfl rfl
 rw [F23 hf] at h1
 refine h1.trans ?_
 have hset:hs.set (hs.length - 1) h=hs:=by
  have h2:=E42 hl
  have hlen:hs.length - 1=hs.dropLast.length:=by rw [List.length_dropLast]
  conv=>lhs;rw [hlen];arg 1;rw [h2]
  rw [List.set_append_right _ _ (Nat.le_refl _),K20,List.set_cons_zero,←h2]
 have h3:=J73 (P:=P) (nt:=nt) (fr:=fr) (ob:=J52 (Ob.freeze 732 Row 3 rowC h.Rows) (Obs.drop 732 (Y1 w d n hs h.At h.Rows))) 731 h rfl (by
  obtain ⟨a,ls⟩:=h
  cases ls with
  | nil=>exact absurd rfl hne
  | cons x r=>rfl)
 rw [hset] at h3
 refine h3.trans (J56 (ObIn.spec ⟨rfl,rfl,rfl,trivial⟩))
theorem openC2 {h:CHunk} (hf:H3 732 fr=true) (hl:hs.getLast?=some h) (hne:h.Rows=[]):Sees P nt fr (Y0 w d n hs) fr (Y1 w d n hs h.At []):=by
 have hv:hs[hs.length - 1]?=some h:=by rw [←List.getLast?_eq_getElem?];exact hl
 refine (J76 731 (hs.length - 1) (v:=h) Z hv).trans ?_
 have hcells:(cellsOf A60 h 0 2).map TC.p=[.p (.list Int 1 H1 h.At),.p (.v (.slice none 0 0))]:=by
  obtain ⟨a,ls⟩:=h
  have hne:ls=[]:=hne
  subst hne;rfl
 rw [hcells]
 refine (J75 732 Row 3 rowC 69 (kb:=731) (o:=1) Z Z (by rw [hf];rfl)).trans ?_
 exact J56 (ObIn.spec ⟨rfl,rfl,rfl,rfl,trivial⟩)
theorem G14 (hf:H3 732 fr=true):Sees P nt fr (F07 w d n hs) fr (Y0 w d n hs):=by
 unfold F07
 cases hl:hs.getLast? with
 | none=>exact J56 fun _ _ h=>h
 | some h =>
  dsimp only
  cases hh:h.Rows with
  | nil=>exact J56 fun _ _ h=>h
  | cons x r =>
   dsimp only
   rw [←hh]
   exact shutC hf hl (by rw [hh];simp)
theorem toOpenC {h:CHunk} (hf:H3 732 fr=true) (hl:hs.getLast?=some h):Sees P nt fr (F07 w d n hs) fr (Y1 w d n hs h.At h.Rows):=by
 unfold F07
 rw [hl]
 dsimp only
 cases hh:h.Rows with
 | nil=>dsimp only;exact openC2 hf hl hh
 | cons x r=>exact J56 fun _ _ h=>h
theorem ofShutC {a:List Int}:F07 w d n (hs++[⟨a,[]⟩])=Y0 w d n (hs++[⟨a,[]⟩]):=by unfold F07;simp
theorem I15 {h:CHunk} {ls:List Row} (hl:hs.getLast?=some h) (hne:ls≠[]):Sees P nt fr (Y1 w d n hs h.At ls) fr (F07 w d n (hs.dropLast++[⟨h.At,ls⟩])):=by
 have h2:=E42 hl
 have hlen:(hs.dropLast++[(⟨h.At,ls⟩:CHunk)]).length=hs.length:=by
  conv=>rhs;rw [h2]
  simp
 have hO:F07 w d n (hs.dropLast++[⟨h.At,ls⟩])=Y1 w d n (hs.dropLast++[⟨h.At,ls⟩]) h.At ls:=by
  unfold F07
  cases ls with
  | nil=>exact absurd rfl hne
  | cons x r=>simp
 rw [hO]
 have h3:=Sees.reA (P:=P) (nt:=nt) (fr:=fr) (ob:=Y1 w d n hs h.At ls) 731 (hs.dropLast++[⟨h.At,ls⟩]) rfl hlen (by
  intro i hi
  have hd:hs.dropLast.length=hs.length - 1:=by rw [List.length_dropLast]
  rcases Nat.lt_or_ge i (hs.length - 1) with h4 | h4
  ·rw [J94 (by omega)]
   conv=>rhs;rw [h2]
   rw [J94 (by omega)]
  ·rw [K01 (by omega),K01 (by omega)])
 rw [show (hs.length - 1)=(hs.dropLast++[(⟨h.At,ls⟩:CHunk)]).length - 1 by rw [hlen]] at h3
 exact h3.trans (J56 (ObIn.spec ⟨rfl,rfl,rfl,rfl,trivial⟩))
end
theorem H61 {x:CHunk} (j:Nat) (rd:Rd) (u:Value) (h:(A60 x j).rep rd u):(J0 x j).rep rd u:=by
 match j with
 | 0=>exact h
 | j+1 =>
  obtain ⟨a,ls⟩:=x
  cases ls with
  | nil =>
   have h:(Cell.v (.slice none 0 0)).rep rd u:=h
   obtain ⟨rfl,_⟩:=h
   exact P4 _ _ _
  | cons y r=>exact h
def c4 (l:List Str):List PV:=match O4 l with
 | some p=>[I5 p,D3 true]
 | none=>[I5 comb0,D3 false]
set_option maxHeartbeats 4000000
theorem I69 (l:List Str) (hw:(l.map u4).sum≤268435456) (hsz:∀s∈l,s.length≤4194304):FnOk Tryz.prog 83 [c5 l] (fun rs=>rs=c4 l):=by
 have hll:420*l.length≤(l.map u4).sum:=by
  clear hw hsz
  induction l with
  | nil=>simp
  | cons x r ih =>
   have e:u4 x=420*(x.length+1):=rfl
   simp only [J85,K03,J78,e];omega
 by_cases hlen:l.length < 2
 ·have hp:O4 l=none:=by
   match l,hlen with
   | [],_=>rfl
   | [_],_=>rfl
  have hb:decide ((l.length:Int) < 2)=true:=decide_eq_true (by omega)
  refine FnOk.intro Tryz.func83 (by decide) Z Z Z Z ?_
  refine k2 ?_
  refine A3 (C2 (G1 2 Z) Z (A2 (A5 Z Z) Z (A6 ?_)))
  refine k1 (k2 ?_)
  refine A3 (A2 (F6 Z) Z (C2 (P6 730 Z Z Z) Z (A2 (A5 Z Z) Z (A6 ?_))))
  refine k1 (k2 (k2 ?_))
  refine C4 (by kernel_rfl) (by kernel_rfl) (A8 (A4 Z Z) Z Z (A8 (F2 Z (.pure _ _ _ _)) Z Z (A8 (D6 Z Z) Z Z (A8 (A4 Z Z) Z Z (A56 Z Z (by rw [hb];decide) Z Z ?_)))));refine A56 Z Z (by rw [hb];decide) Z Z ?_;refine A56 Z Z (by rw [hb];decide) Z Z ?_;refine A56 Z Z (by rw [hb];decide) Z Z ?_;refine A56 Z Z (by rw [hb];decide) Z Z ?_;refine A56 Z Z (by rw [hb];decide) Z Z ?_;refine A56 Z Z (by rw [hb];decide) Z Z ?_;refine A56 Z Z (by rw [hb];decide) Z Z ?_;refine A56 Z Z (by rw [hb];decide) Z Z ?_;refine A8 (y2 Z (hb) Z) Z Z (H9 ?_)
  refine k1 ?_
  refine B2 rfl (fun ht=>?_) (fun ht=>?_)
  rotate_left
  ·cases ht
  refine k2 ?_
  refine A3 (A2 (F6 Z) Z (E3 (B7 TySz.out Z Z Z Z Z Z) (A2 (A5 Z Z) Z (A6 ?_))))
  refine k1 ?_
  refine F4 (J49 CHunk 2 J0 2 3 Z Z) ?_
  refine k10 (k11 ?_)
  exact B5 (rs:=[I5 comb0,D3 false]) (L5 rfl rfl rfl rfl rfl rfl rfl) (by unfold c4;rw [hp])
 obtain ⟨l0,l1,R,rfl⟩:∃a b r,l=a::b::r:=by
  match l,hlen with
  | a::b::r,_=>exact ⟨a,b,r,rfl⟩
  | [],h=>exact absurd (by simp) h
  | [_],h=>exact absurd (by simp) h
 have z0:=hsz l0 (by simp)
 have z1:=hsz l1 (by simp)
 have hWR:(R.map u4).sum≤268435456:=by simp only [J85,K03] at hw;omega
 have hRl:R.length≤16777216:=by simp only [J78] at hll;omega
 clear hw hll
 have hb:decide (((l0::l1::R).length:Int) < 2)=false:=decide_eq_false (by simp only [J78];omega)
 have hg0:(l0::l1::R)[(0:Int).toNat]?=some l0:=rfl
 have hg1:(l0::l1::R)[(1:Int).toNat]?=some l1:=rfl
 have hm:=fun gf=>H59 (gf:=gf) l0 l1 z0 z1
 cases hT:R3 true l0 l1 with
 | none =>
  rw [hT] at hm
  have hp:O4 (l0::l1::R)=none:=by unfold O4;dsimp only;rw [hT]
  refine FnOk.intro Tryz.func83 (by decide) Z Z Z Z ?_
  refine k2 ?_
  refine A3 (C2 (G1 2 Z) Z (A2 (A5 Z Z) Z (A6 ?_)))
  refine k1 (k2 ?_)
  refine A3 (A2 (F6 Z) Z (C2 (P6 730 Z Z Z) Z (A2 (A5 Z Z) Z (A6 ?_))))
  refine k1 (k2 (k2 ?_))
  refine B53 11 (by kernel_rfl) (by kernel_rfl) Z (A8 (A4 Z Z) Z Z (A8 (F2 Z (.pure _ _ _ _)) Z Z (A8 (D6 Z Z) Z Z (A8 (A4 Z Z) Z Z (B99 Z Z hb Z (A8 (A4 Z Z) Z Z (B99 Z Z hb Z (A8 (A4 Z Z) Z Z (B99 Z Z hb Z (A8 (B3 Z (.pure _ _ _ _) Z (by omega) hg0) Z Z (B99 Z Z hb Z (A8 (B6 Z Z) Z Z (B99 Z Z hb Z (A8 (A4 Z Z) Z Z (B99 Z Z hb Z (A8 (B3 Z (.pure _ _ _ _) Z (by omega) hg1) Z Z (B99 Z Z hb Z (A8 (B6 Z Z) Z Z (H9 (F35 Z Z hb (C58 (hm _) Z Z Z ?_)))))))))))))))))))));rintro _ _ ⟨w,d,n,ok,rfl,rfl,rfl⟩;refine ⟨_,rfl,?_⟩;refine B99 Z Z hb Z (A8 (E4 Z) Z Z (A8 (y3 Z (hb) Z) Z Z (H9 ?_)))
  refine k1 ?_
  refine B2 rfl (fun ht=>?_) (fun ht=>?_)
  rotate_left
  ·cases ht
  refine k2 ?_
  refine A3 (A2 (F6 Z) Z (E3 (B7 TySz.out Z Z Z Z Z Z) (A2 (A5 Z Z) Z (A6 ?_))))
  refine k1 ?_
  refine F4 (J49 CHunk 2 J0 2 3 Z Z) ?_
  refine k10 (k11 ?_)
  exact B5 (rs:=[I5 comb0,D3 false]) (L5 rfl rfl rfl rfl rfl rfl rfl) (by unfold c4;rw [hp])
 | some q =>
  obtain ⟨d,w,n⟩:=q
  rw [hT] at hm
  have hn:=D31 hT
  obtain ⟨N,rfl⟩:∃N:Nat,n=N:=⟨n.toNat,by omega⟩
  have hN:1≤N∧N≤32:=by omega
  have hPs:∀hs,Z8 N [] R=some hs→[I5 ⟨w,d,N,hs⟩,D3 true]=c4 (l0::l1::R):=by
   intro hs h
   have:O4 (l0::l1::R)=some ⟨w,d,N,hs⟩:=by unfold O4;dsimp only;rw [hT];dsimp only;rw [J83,h]
   unfold c4;rw [this]
  have hnone:Z8 N [] R=none→[I5 comb0,D3 false]=c4 (l0::l1::R):=by
   intro h
   have:O4 (l0::l1::R)=none:=by unfold O4;dsimp only;rw [hT];dsimp only;rw [J83,h]
   unfold c4;rw [this]
  refine FnOk.intro Tryz.func83 (by decide) Z Z Z Z ?_
  refine k2 ?_
  refine A3 (C2 (G1 2 Z) Z (A2 (A5 Z Z) Z (A6 ?_)))
  refine k1 (k2 ?_)
  refine A3 (A2 (F6 Z) Z (C2 (P6 730 Z Z Z) Z (A2 (A5 Z Z) Z (A6 ?_))))
  refine k1 (k2 (k2 ?_))
  refine B53 11 (by kernel_rfl) (by kernel_rfl) Z (A8 (A4 Z Z) Z Z (A8 (F2 Z (.pure _ _ _ _)) Z Z (A8 (D6 Z Z) Z Z (A8 (A4 Z Z) Z Z (B99 Z Z hb Z (A8 (A4 Z Z) Z Z (B99 Z Z hb Z (A8 (A4 Z Z) Z Z (B99 Z Z hb Z (A8 (B3 Z (.pure _ _ _ _) Z (by omega) hg0) Z Z (B99 Z Z hb Z (A8 (B6 Z Z) Z Z (B99 Z Z hb Z (A8 (A4 Z Z) Z Z (B99 Z Z hb Z (A8 (B3 Z (.pure _ _ _ _) Z (by omega) hg1) Z Z (B99 Z Z hb Z (A8 (B6 Z Z) Z Z (H9 (F35 Z Z hb (C58 (hm _) Z Z Z ?_)))))))))))))))))))));rintro _ _ ⟨w',d',n',ok,rfl,rfl,rfl,rfl,rfl,rfl⟩;refine ⟨_,rfl,?_⟩;refine B99 Z Z hb Z (A8 (E4 Z) Z Z (A8 (y3 Z (hb) Z) Z Z (H9 ?_)))
  refine k1 ?_
  refine B2 rfl (fun ht=>?_) (fun ht=>?_)
  ·cases ht
  refine k5 (k1 (k2 (k2 ?_)))
  refine A3 (A2 (A4 Z Z) Z (A2 (D11 Z (.pure _ _ _ _) Z (by (first | omega | (simp only [J78];omega))) (by (first | omega | (simp only [J78];omega)))) Z (A2 (F2 Z (.pure _ _ _ _)) Z (A2 (A4 Z Z) Z (A6 ?_)))))
  refine k1 (k3 ?_)
  refine F4 (J71 731 CHunk 2 A60 82 (kb:=730) (o:=3) Z Z Z) ?_
  refine D1 (X:=Nat × List CHunk) (fun x=>([(4,.s (.one (.ref 730 0))),(2,.s (.one (.ref 2 0))),(25,C8 Str 1 J5 R),(26,C3 R.length),(27,C3 x.1)],F07 w' d' N x.2)) (fun x=>x.1≤R.length∧CInv N x.2∧szC x.2≤C01 R x.1∧Z8 N x.2 (R.drop x.1)=Z8 N [] R) (fun x=>R.length - x.1) (0,[]) ⟨Nat.zero_le _,(fun h hh=>(by cases hh)),(by simp [szC]),rfl⟩ (J48 ⟨le1 rfl,le1 rfl,le1 rfl,le1 rfl,le1 rfl,trivial⟩ ⟨rfl,rfl,rfl,trivial⟩) ?_
  rintro ⟨k,hs⟩ ⟨hk,hci,hz,hf⟩
  dsimp only at hk hci hz hf ⊢
  have hzb:C01 R k≤(R.map u4).sum:=by
   unfold C01
   conv=>rhs;rw [←K18 k R,J92,K15]
   omega
  have hsl:=A14 hs
  refine k2 ?_
  refine A3 (A2 (D6 Z Z) Z (A6 ?_))
  refine k1 (k2 ?_)
  refine B2 rfl (fun ht=>?_) (fun ht=>?_)
  ·have hlt:k < R.length:=by have:=A0 ht;omega
   obtain ⟨x,hx⟩:∃x,x=R[k]:=⟨_,rfl⟩
   have hv:R[k]?=some x:=by rw [hx];simp [hlt]
   have hxz:=hsz x (by simp [J93 hv])
   have hwk:=B85 hlt
   rw [←hx] at hwk
   rw [J84 hlt,←hx,Z8] at hf
   have hstep:∀{g},W3 N hs x=some g→Z8 N g (R.drop (k+1))=Z8 N [] R∧szC g≤C01 R (k+1)∧CInv N g:=by
    intro g hg
    rw [hg] at hf
    have h3:=G80 hN hg hci
    exact ⟨hf,by omega,h3.2⟩
   have hfail:W3 N hs x=none→Z8 N [] R=none:=by intro h;rw [h] at hf;exact hf.symm
   clear hf hx
   refine k5 (k1 (k2 (k3 (k2 ?_))))
   refine A3 (A2 (B3 Z (.pure _ _ _ _) Z (by omega) hv) Z (A2 (B6 Z Z) Z (A2 (A5 Z Z) Z (A6 ?_))))
   refine k1 (k2 ?_)
   by_cases h64:x.take 1=[64]
   ·refine F4 (G14 Z) ?_
    refine R6 [(4,.s (.one (.ref 730 0))),(2,.s (.one (.ref 2 0))),(25,C8 Str 1 J5 R),(26,C3 R.length),(27,C3 k),(6,H4 x)] (Y0 w' d' N hs) (J48 ⟨le1 rfl,le1 rfl,le1 rfl,le1 rfl,le1 rfl,le1 rfl,trivial⟩ ⟨rfl,rfl,rfl,trivial⟩) ?_
    have hm:=J24 x R k w' d' N hs hN (by omega) hxz h64
    cases hh:A34 N x with
    | none =>
     rw [hh] at hm
     have hst:W3 N hs x=none:=by unfold W3;rw [if_pos h64,hh]
     refine A3 (A2 (A4 Z Z) Z (A2 (A4 Z Z) Z (X3 (hm) Z Z Z ?_)));rintro _ _ ⟨rfl,rfl⟩;refine A2 (E4 Z) Z (A6 ?_)
     refine k1 ?_
     refine B2 rfl (fun ht=>?_) (fun ht=>?_)
     ·refine k2 ?_
      refine A3 (A2 (F6 Z) Z (E3 (B7 TySz.out Z Z Z Z Z Z) (A2 (A5 Z Z) Z (A6 ?_))))
      refine k1 ?_
      refine F4 (J49 CHunk 2 J0 2 3 Z Z) ?_
      refine k10 (k12 (k11 (k11 (k12 (k11 ?_)))))
      exact B5 (rs:=[I5 comb0,D3 false]) (L5 rfl rfl rfl rfl rfl rfl rfl) (hnone (hfail hst))
     ·cases ht
    | some a =>
     rw [hh] at hm
     have hst:W3 N hs x=some (hs++[⟨a,[]⟩]):=by unfold W3;rw [if_pos h64,hh]
     obtain ⟨s1,s2,s3⟩:=hstep hst
     refine A3 (A2 (A4 Z Z) Z (A2 (A4 Z Z) Z (X3 (hm) Z Z Z ?_)));rintro _ _ ⟨rfl,rfl⟩;refine A2 (E4 Z) Z (A6 ?_)
     refine k1 ?_
     refine B2 rfl (fun ht=>?_) (fun ht=>?_)
     ·cases ht
     refine k5 (k4 (k1 ?_))
     refine A3 (A2 (C1 Z Z (by omega)) Z (A2 (A4 Z Z) Z (A6 ?_)))
     refine k1 ?_
     refine ⟨(k+1,hs++[⟨a,[]⟩]),⟨hlt,s3,s2,s1⟩,by dsimp only;omega,?_⟩
     dsimp only
     rw [ofShutC]
     exact J48 ⟨le1 rfl,le1 rfl,le1 rfl,le1 rfl,le1 rfl,trivial⟩ ⟨rfl,rfl,rfl,trivial⟩
   cases hl:hs.getLast? with
   | none =>
    have hn0:hs=[]:=List.getLast?_eq_none_iff.1 hl
    subst hn0
    have hst:W3 N [] x=none:=by unfold W3;rw [if_neg h64,if_pos rfl]
    have hm:=I66 x R k w' d' N h64
    refine F4 (G14 Z) ?_
    refine R6 [(4,.s (.one (.ref 730 0))),(2,.s (.one (.ref 2 0))),(25,C8 Str 1 J5 R),(26,C3 R.length),(27,C3 k),(6,H4 x)] (Y0 w' d' N []) (J48 ⟨le1 rfl,le1 rfl,le1 rfl,le1 rfl,le1 rfl,le1 rfl,trivial⟩ ⟨rfl,rfl,rfl,trivial⟩) ?_
    refine A3 (A2 (A4 Z Z) Z (A2 (A4 Z Z) Z (X3 (hm) Z Z Z ?_)));rintro _ _ ⟨rfl,rfl⟩;refine A2 (E4 Z) Z (A6 ?_)
    refine k1 ?_
    refine B2 rfl (fun ht=>?_) (fun ht=>?_)
    ·refine k2 ?_
     refine A3 (A2 (F6 Z) Z (E3 (B7 TySz.out Z Z Z Z Z Z) (A2 (A5 Z Z) Z (A6 ?_))))
     refine k1 ?_
     refine F4 (J49 CHunk 2 J0 2 3 Z Z) ?_
     refine k10 (k12 (k11 (k11 (k12 (k11 ?_)))))
     exact B5 (rs:=[I5 comb0,D3 false]) (L5 rfl rfl rfl rfl rfl rfl rfl) (hnone (hfail hst))
    ·cases ht
   | some h =>
    have hne:hs≠[]:=by intro e;rw [e] at hl;cases hl
    have h0:0 < hs.length:=List.length_pos_iff.2 hne
    have hmem:=A53 (List.mem_of_getLast? hl)
    have hrl:=T9 h.Rows
    have hmem2:(h.Rows.map N0).sum≤szC hs:=by
     rw [B03] at hmem;omega
    refine F4 (toOpenC Z hl) ?_
    refine R6 [(4,.s (.one (.ref 730 0))),(2,.s (.one (.ref 2 0))),(25,C8 Str 1 J5 R),(26,C3 R.length),(27,C3 k),(6,H4 x)] (Y1 w' d' N hs h.At h.Rows) (J48 ⟨le1 rfl,le1 rfl,le1 rfl,le1 rfl,le1 rfl,le1 rfl,trivial⟩ ⟨rfl,rfl,rfl,rfl,trivial⟩) ?_
    by_cases hno:x=noNl
    ·subst hno
     have hm:=I67 R k w' d' N hs h.At h.Rows h0 (by omega) (by omega) (fun r hr=>by
      have h5:=B94 hr
      have h6:N0 r=r.Text.length+96:=rfl
      omega)
     cases hx2:h.Rows.getLast? with
     | none =>
      rw [hx2] at hm
      have hst:W3 N hs noNl=none:=by
       unfold W3;rw [if_neg h64,if_neg hne,if_pos rfl];unfold E78;rw [hl];dsimp only;rw [hx2]
      refine A3 (A2 (A4 Z Z) Z (A2 (A4 Z Z) Z (X3 (hm) Z Z Z ?_)));rintro _ _ ⟨rfl,rfl⟩;refine A2 (E4 Z) Z (A6 ?_)
      refine k1 ?_
      refine B2 rfl (fun ht=>?_) (fun ht=>?_)
      ·refine k2 ?_
       refine A3 (A2 (F6 Z) Z (E3 (B7 TySz.out Z Z Z Z Z Z) (A2 (A5 Z Z) Z (A6 ?_))))
       refine k1 ?_
       refine F4 (J49 CHunk 2 J0 2 3 Z Z) ?_
       refine k10 (k12 (k11 (k11 (k12 (k11 ?_)))))
       exact B5 (rs:=[I5 comb0,D3 false]) (L5 rfl rfl rfl rfl rfl rfl rfl) (hnone (hfail hst))
      ·cases ht
     | some r =>
      rw [hx2] at hm
      have hst:W3 N hs noNl=some (hs.dropLast++[⟨h.At,h.Rows.dropLast++[⟨r.Lost,r.Marks,A00 r.Text⟩]⟩]):=by
       unfold W3;rw [if_neg h64,if_neg hne,if_pos rfl];unfold E78;rw [hl];dsimp only;rw [hx2]
      obtain ⟨s1,s2,s3⟩:=hstep hst
      refine A3 (A2 (A4 Z Z) Z (A2 (A4 Z Z) Z (X3 (hm) Z Z Z ?_)));rintro _ _ ⟨rfl,rfl⟩;refine A2 (E4 Z) Z (A6 ?_)
      refine k1 ?_
      refine B2 rfl (fun ht=>?_) (fun ht=>?_)
      ·cases ht
      refine k5 (k4 (k1 ?_))
      refine A3 (A2 (C1 Z Z (by omega)) Z (A2 (A4 Z Z) Z (A6 ?_)))
      refine k1 ?_
      refine ⟨(k+1,hs.dropLast++[⟨h.At,h.Rows.dropLast++[⟨r.Lost,r.Marks,A00 r.Text⟩]⟩]),⟨hlt,s3,s2,s1⟩,by dsimp only;omega,?_⟩
      refine Sees.trans ?_ (I15 hl (by simp))
      exact J48 ⟨le1 rfl,le1 rfl,le1 rfl,le1 rfl,le1 rfl,trivial⟩ ⟨rfl,rfl,rfl,rfl,trivial⟩
    ·have hm:=I68 x R k w' d' N hs h.At h.Rows h0 (by omega) (by omega) hxz h64 hno
     have hro:AL.rowAt (x++[10]) N=x7 (x++[10]) (N:Int):=by unfold x7;rw [if_neg (by omega),J83]
     cases hr:x7 (x++[10]) (N:Int) with
     | none =>
      rw [hr] at hm hro
      have hst:W3 N hs x=none:=by unfold W3;rw [if_neg h64,if_neg hne,if_neg hno,hro]
      refine A3 (A2 (A4 Z Z) Z (A2 (A4 Z Z) Z (X3 (hm) Z Z Z ?_)));rintro _ _ ⟨rfl,rfl⟩;refine A2 (E4 Z) Z (A6 ?_)
      refine k1 ?_
      refine B2 rfl (fun ht=>?_) (fun ht=>?_)
      ·refine k2 ?_
       refine A3 (A2 (F6 Z) Z (E3 (B7 TySz.out Z Z Z Z Z Z) (A2 (A5 Z Z) Z (A6 ?_))))
       refine k1 ?_
       refine F4 (J49 CHunk 2 J0 2 3 Z Z) ?_
       refine k10 (k12 (k11 (k11 (k12 (k11 ?_)))))
       exact B5 (rs:=[I5 comb0,D3 false]) (L5 rfl rfl rfl rfl rfl rfl rfl) (hnone (hfail hst))
      ·cases ht
     | some r =>
      rw [hr] at hm hro
      have hst:W3 N hs x=some (hs.dropLast++[⟨h.At,h.Rows++[r]⟩]):=by unfold W3;rw [if_neg h64,if_neg hne,if_neg hno,hro];dsimp only;unfold G31;rw [hl]
      obtain ⟨s1,s2,s3⟩:=hstep hst
      refine A3 (A2 (A4 Z Z) Z (A2 (A4 Z Z) Z (X3 (hm) Z Z Z ?_)));rintro _ _ ⟨rfl,rfl⟩;refine A2 (E4 Z) Z (A6 ?_)
      refine k1 ?_
      refine B2 rfl (fun ht=>?_) (fun ht=>?_)
      ·cases ht
      refine k5 (k4 (k1 ?_))
      refine A3 (A2 (C1 Z Z (by omega)) Z (A2 (A4 Z Z) Z (A6 ?_)))
      refine k1 ?_
      refine ⟨(k+1,hs.dropLast++[⟨h.At,h.Rows++[r]⟩]),⟨hlt,s3,s2,s1⟩,by dsimp only;omega,?_⟩
      refine Sees.trans ?_ (I15 hl (by simp))
      exact J48 ⟨le1 rfl,le1 rfl,le1 rfl,le1 rfl,le1 rfl,trivial⟩ ⟨rfl,rfl,rfl,rfl,trivial⟩
  ·have hk2:k=R.length:=by have:=A1 ht;omega
   subst hk2
   rw [J87 (Nat.le_refl _)] at hf
   have hf:some hs=Z8 N [] R:=hf
   refine k6 (k2 ?_)
   refine F4 (G14 Z) ?_
   refine F4 (J74 731 J0 Z (fun x _ j _ rd u=>H61 j rd u)) ?_
   refine F4 (Sees.freezeG (k:=731) Z Z) ?_
   refine R6 [(4,.s (.one (.ref 730 0))),(2,.s (.one (.ref 2 0)))] [(730,.box [.p (.v (.string ⟨w'.toArray⟩)),.p (.v (.bool d')),.p (.v (.int .i64 N)),.p (.list CHunk 2 J0 hs)]),(2,M8)] (J48 ⟨le1 rfl,le1 rfl,trivial⟩ ⟨rfl,rfl,trivial⟩) ?_
   refine A3 (A2 (A4 Z Z) Z (A2 (B8 Z) Z (A2 (A7 Z) Z (A2 (C7 Z Z Z) Z (E3 (B7 TySz.out Z Z Z Z Z Z) (A2 (A5 Z Z) Z (A6 ?_)))))))
   refine k1 (k10 ?_)
   exact B5 (rs:=[I5 ⟨w',d',N,hs⟩,D3 true]) (L5 rfl rfl rfl rfl rfl rfl rfl) (hPs hs hf.symm)
theorem E47 {s:Str} {l:List Str} (h:c9 s=some l):(l.map u4).sum≤420*s.length:=by
 unfold c9 at h
 split at h
 ·cases h;simp
 ·split at h
  ·have h:(D2 s).map List.dropLast=l:=Option.some.inj h
   obtain ⟨f1,f2⟩:=C37 s
   have hsum:∀L:List Str,(∀x∈L,x≠[])→((L.map List.dropLast).map u4).sum≤420*L.flatten.length:=by
    intro L
    induction L with
    | nil=>intro _;simp
    | cons x r ih =>
     intro hne
     have ih:=ih (fun y hy=>hne y (by simp [hy]))
     have hx:=List.length_pos_iff.2 (hne x (by simp))
     simp only [J85,K03,J91,J77]
     have e:u4 x.dropLast=420*(x.dropLast.length+1):=rfl
     rw [e,List.length_dropLast]
     omega
   have hs:=hsum (D2 s) (fun x hx=>((C34 x).1 ((C36 s).1 x hx)).1)
   rw [h] at hs
   omega
  ·cases h
def A45 (f:List Str→Option Comb) (s:Str):List PV:=[I5 (M5 f s).1,E2 (M5 f s).2]
theorem D67 (s:Str) (hs:s.length≤600000):FnOk Tryz.prog 37 [F5 s] (fun rs=>rs=A45 O4 s):=by
 rw [show A45 O4 s=A45 u7 s by unfold A45;rw [I89]]
 have h16:¬16777216 < s.length:=by omega
 have hL:=G77 s (by omega)
 have hfail:∀{x:Comb × Int},M5 u7 s=x→x=(comb0,4)→[I5 comb0,E2 4]=A45 u7 s:=by
  intro x h1 h2
  unfold A45;rw [h1,h2]
 refine FnOk.intro Tryz.func37 (by decide) Z Z Z Z ?_
 refine k2 ?_
 refine A3 (C2 (G1 2 Z) Z (A2 (A5 Z Z) Z (A6 ?_)))
 refine k1 (k2 (k2 ?_))
 refine A3 (A2 (A4 Z Z) Z (A2 (D5 Z) Z (A2 (L9 Z Z) Z (A6 ?_))))
 refine k1 ?_
 refine B2 rfl (fun ht=>?_) (fun ht=>?_)
 ·exact absurd (A0 ht) (by omega)
 cases hl:c9 s with
 | none =>
  unfold A27 at hL
  rw [hl] at hL
  refine k5 (k1 (k2 ?_))
  refine A3 (A2 (A4 Z Z) Z (B9 (hL) Z Z Z ?_));rintro _ rfl;refine A2 (A4 Z Z) Z (A2 (B1 Z Z) Z (A2 (B1 Z Z) Z (A2 (A5 Z Z) Z (A2 (A5 Z Z) Z (A6 ?_)))))
  refine k1 (k2 (k2 ?_))
  refine A3 (A2 (A4 Z Z) Z (A2 (E4 Z) Z (A6 ?_)))
  refine k1 ?_
  refine B2 rfl (fun ht=>?_) (fun ht=>?_)
  ·refine k2 ?_
   refine A3 (A2 (F6 Z) Z (E3 (B7 TySz.out Z Z Z Z Z Z) (A2 (A5 Z Z) Z (A6 ?_))))
   refine k1 ?_
   refine F4 (J49 CHunk 2 J0 2 3 Z Z) ?_
   refine k10 (k11 ?_)
   exact B5 (rs:=[I5 comb0,E2 4]) (L5 rfl rfl rfl rfl rfl rfl rfl) (hfail rfl (by unfold M5;rw [if_neg h16,hl]))
  ·cases ht
 | some l =>
  unfold A27 at hL
  rw [hl] at hL
  obtain ⟨z1,z2⟩:=F53 hl
  have zw:=E47 hl
  have zl:65*l.length≤(l.map fun t=>t.length+65).sum:=by
   clear z1 z2 hL hl zw
   induction l with
   | nil=>simp
   | cons x r ih=>simp only [J85,K03,J78];omega
  have hP:=H58 l (by omega) (fun t ht=>by have:=z2 t ht;omega)
  cases hp:u7 l with
  | none =>
   rw [hp] at hP
   refine k5 (k1 (k2 ?_))
   refine A3 (A2 (A4 Z Z) Z (B9 (hL) Z Z Z ?_));rintro _ rfl;refine A2 (A4 Z Z) Z (A2 (B1 Z Z) Z (A2 (B1 Z Z) Z (A2 (A5 Z Z) Z (A2 (A5 Z Z) Z (A6 ?_)))))
   refine k1 (k2 (k2 ?_))
   refine A3 (A2 (A4 Z Z) Z (A2 (E4 Z) Z (A6 ?_)))
   refine k1 ?_
   refine B2 rfl (fun ht=>?_) (fun ht=>?_)
   ·cases ht
   refine k5 (k1 (k2 ?_))
   refine A3 (A2 (A4 Z Z) Z (B9 (hP) Z Z Z ?_));rintro _ ⟨p,ok,rfl,rfl⟩;refine A2 (A4 Z Z) Z (A2 (B1 Z Z) Z (A2 (B1 Z Z) Z (C2 (G1 6 Z) Z (E3 (B7 TySz.out Z Z Z Z Z Z) (A2 (A5 Z Z) Z (A6 ?_))))))
   refine k1 (k2 (k2 ?_))
   refine A3 (A2 (A4 Z Z) Z (A2 (E4 Z) Z (A2 (A4 Z Z) Z (Q8 Z Z Z (by decide) Z (Q8 Z Z Z (by decide) Z (Q8 Z Z Z (by decide) Z (A2 (y2 Z (rfl) Z) Z (A2 (A4 Z Z) Z (Q8 Z Z Z (by decide) Z (Q8 Z Z Z (by decide) Z (Q8 Z Z Z (by decide) Z (Q8 Z Z Z (by decide) Z (A2 (y2 Z (rfl) Z) Z (A6 ?_))))))))))))))
   refine k1 ?_
   refine B2 rfl (fun ht=>?_) (fun ht=>?_)
   ·refine k2 ?_
    refine A3 (A2 (F6 Z) Z (E3 (B7 TySz.out Z Z Z Z Z Z) (A2 (A5 Z Z) Z (A6 ?_))))
    refine k1 ?_
    refine F4 (J49 CHunk 2 J0 2 3 Z Z) ?_
    refine k10 (k11 ?_)
    exact B5 (rs:=[I5 comb0,E2 4]) (L5 rfl rfl rfl rfl rfl rfl rfl) (hfail rfl (by unfold M5;rw [if_neg h16,hl];dsimp only;rw [hp]))
   ·cases ht
  | some p =>
   rw [hp] at hP
   obtain ⟨_,hsz,hci⟩:=J19 hp
   have hz:szC p.Hunks≤268435456:=by omega
   have hr:∀h∈p.Hunks,I9 h.Rows:=fun h hm=>(hci h hm).2
   have hC:=D62 p hz hr
   have hS:M5 u7 s=if G8 p≠0∨O3 p≠s then (comb0,4) else (p,0):=by unfold M5;rw [if_neg h16,hl];dsimp only;rw [hp]
   by_cases hc:G8 p=0
   ·have hW:=B56 p (C30 hc hz hr)
    rw [hc] at hC
    obtain ⟨w,hw⟩:∃w,w=O3 p:=⟨_,rfl⟩
    rw [←hw] at hW hS
    refine k5 (k1 (k2 ?_))
    refine A3 (A2 (A4 Z Z) Z (B9 (hL) Z Z Z ?_));rintro _ rfl;refine A2 (A4 Z Z) Z (A2 (B1 Z Z) Z (A2 (B1 Z Z) Z (A2 (A5 Z Z) Z (A2 (A5 Z Z) Z (A6 ?_)))))
    refine k1 (k2 (k2 ?_))
    refine A3 (A2 (A4 Z Z) Z (A2 (E4 Z) Z (A6 ?_)))
    refine k1 ?_
    refine B2 rfl (fun ht=>?_) (fun ht=>?_)
    ·cases ht
    refine k5 (k1 (k2 ?_))
    refine A3 (A2 (A4 Z Z) Z (B9 (hP) Z Z Z ?_));rintro _ ⟨p',ok,rfl,rfl,rfl⟩;refine A2 (A4 Z Z) Z (A2 (B1 Z Z) Z (A2 (B1 Z Z) Z (C2 (G1 6 Z) Z (E3 (B7 TySz.out Z Z Z Z Z Z) (A2 (A5 Z Z) Z (A6 ?_))))))
    refine k1 (k2 (k2 ?_))
    refine A3 (A2 (A4 Z Z) Z (A2 (E4 Z) Z (A2 (A4 Z Z) Z (N8 Z Z Z Z (A2 (C7 Z Z Z) Z (N8 Z Z Z Z (B9 (hC) Z Z Z ?_)))))));rintro _ rfl;refine N8 Z Z Z Z (A2 (L4 Z Z) Z (A2 (y3 Z (rfl) Z) Z (A2 (A4 Z Z) Z (N8 Z Z Z Z (A2 (C7 Z Z Z) Z (N8 Z Z Z Z (B9 (hW) Z Z Z ?_)))))));rintro _ rfl;refine N8 Z Z Z Z (A2 (A4 Z Z) Z (N8 Z Z Z Z (A2 (j4 Z Z) Z (A2 (y3 Z (rfl) Z) Z (A6 ?_)))))
    refine k1 ?_
    by_cases hb:w=s
    ·rw [if_neg (by simp [hc,hb])] at hS
     refine B2 rfl (fun ht=>?_) (fun ht=>?_)
     ·exact absurd hb (A0 ht)
     refine k5 (k1 (k2 ?_))
     refine A3 (A2 (C7 Z Z Z) Z (E3 (B7 TySz.out Z Z Z Z Z Z) (A2 (A5 Z Z) Z (A6 ?_))))
     refine k1 (k10 ?_)
     exact B5 (rs:=[I5 p',E2 0]) (L5 rfl rfl rfl rfl rfl rfl rfl) (by unfold A45;rw [hS])
    ·rw [if_pos (.inr hb)] at hS
     refine B2 rfl (fun ht=>?_) (fun ht=>?_)
     rotate_left
     ·exact absurd (Decidable.not_not.1 (A1 ht)) hb
     refine k2 ?_
     refine A3 (A2 (F6 Z) Z (E3 (B7 TySz.out Z Z Z Z Z Z) (A2 (A5 Z Z) Z (A6 ?_))))
     refine k1 ?_
     refine F4 (J49 CHunk 2 J0 2 3 Z Z) ?_
     refine k10 (k11 ?_)
     exact B5 (rs:=[I5 comb0,E2 4]) (L5 rfl rfl rfl rfl rfl rfl rfl) (hfail hS rfl)
   ·rw [if_pos (.inl hc)] at hS
    refine k5 (k1 (k2 ?_))
    refine A3 (A2 (A4 Z Z) Z (B9 (hL) Z Z Z ?_));rintro _ rfl;refine A2 (A4 Z Z) Z (A2 (B1 Z Z) Z (A2 (B1 Z Z) Z (A2 (A5 Z Z) Z (A2 (A5 Z Z) Z (A6 ?_)))))
    refine k1 (k2 (k2 ?_))
    refine A3 (A2 (A4 Z Z) Z (A2 (E4 Z) Z (A6 ?_)))
    refine k1 ?_
    refine B2 rfl (fun ht=>?_) (fun ht=>?_)
    ·cases ht
    refine k5 (k1 (k2 ?_))
    refine A3 (A2 (A4 Z Z) Z (B9 (hP) Z Z Z ?_));rintro _ ⟨p',ok,rfl,rfl,rfl⟩;refine A2 (A4 Z Z) Z (A2 (B1 Z Z) Z (A2 (B1 Z Z) Z (C2 (G1 6 Z) Z (E3 (B7 TySz.out Z Z Z Z Z Z) (A2 (A5 Z Z) Z (A6 ?_))))))
    refine k1 (k2 (k2 ?_))
    refine A3 (A2 (A4 Z Z) Z (A2 (E4 Z) Z (A2 (A4 Z Z) Z (N8 Z Z Z Z (A2 (C7 Z Z Z) Z (N8 Z Z Z Z (B9 (hC) Z Z Z ?_)))))));rintro _ rfl;refine N8 Z Z Z Z (A2 (L4 Z Z) Z (A2 (y3 Z (rfl) Z) Z (A2 (A4 Z Z) Z (Q8 Z Z Z (by simp [hc]) Z (Q8 Z Z Z (by simp [hc]) Z (Q8 Z Z Z (by simp [hc]) Z (Q8 Z Z Z (by simp [hc]) Z (A2 (y2 Z ((by simp [hc])) Z) Z (A6 ?_)))))))))
    refine k1 ?_
    refine B2 rfl (fun ht=>?_) (fun ht=>?_)
    rotate_left
    ·cases ht
    refine k2 ?_
    refine A3 (A2 (F6 Z) Z (E3 (B7 TySz.out Z Z Z Z Z Z) (A2 (A5 Z Z) Z (A6 ?_))))
    refine k1 ?_
    refine F4 (J49 CHunk 2 J0 2 3 Z Z) ?_
    refine k10 (k11 ?_)
    exact B5 (rs:=[I5 comb0,E2 4]) (L5 rfl rfl rfl rfl rfl rfl rfl) (hfail hS rfl)
theorem B59 (s:Str) (hs:s.length≤600000):FnOk Tryz.prog 36 [F5 s] (fun rs=>rs=A45 O4 s):=by
 have h16:¬16777216 < s.length:=by omega
 have hL:=H48 s (by omega)
 have hfail:∀{x:Comb × Int},M5 O4 s=x→x=(comb0,4)→[I5 comb0,E2 4]=A45 O4 s:=by
  intro x h1 h2
  unfold A45;rw [h1,h2]
 refine FnOk.intro Tryz.func36 (by decide) Z Z Z Z ?_
 refine k2 ?_
 refine A3 (C2 (G1 2 Z) Z (A2 (A5 Z Z) Z (A6 ?_)))
 refine k1 (k2 (k2 ?_))
 refine A3 (A2 (A4 Z Z) Z (A2 (D5 Z) Z (A2 (L9 Z Z) Z (A6 ?_))))
 refine k1 ?_
 refine B2 rfl (fun ht=>?_) (fun ht=>?_)
 ·exact absurd (A0 ht) (by omega)
 cases hl:c9 s with
 | none =>
  unfold A27 at hL
  rw [hl] at hL
  refine k5 (k1 (k2 ?_))
  refine A3 (A2 (A4 Z Z) Z (B9 (hL) Z Z Z ?_));rintro _ rfl;refine A2 (A4 Z Z) Z (A2 (B1 Z Z) Z (A2 (B1 Z Z) Z (A2 (A5 Z Z) Z (A2 (A5 Z Z) Z (A6 ?_)))))
  refine k1 (k2 (k2 ?_))
  refine A3 (A2 (A4 Z Z) Z (A2 (E4 Z) Z (A6 ?_)))
  refine k1 ?_
  refine B2 rfl (fun ht=>?_) (fun ht=>?_)
  ·refine k2 ?_
   refine A3 (A2 (F6 Z) Z (E3 (B7 TySz.out Z Z Z Z Z Z) (A2 (A5 Z Z) Z (A6 ?_))))
   refine k1 ?_
   refine F4 (J49 CHunk 2 J0 2 3 Z Z) ?_
   refine k10 (k11 ?_)
   exact B5 (rs:=[I5 comb0,E2 4]) (L5 rfl rfl rfl rfl rfl rfl rfl) (hfail rfl (by unfold M5;rw [if_neg h16,hl]))
  ·cases ht
 | some l =>
  unfold A27 at hL
  rw [hl] at hL
  obtain ⟨z1,z2⟩:=F53 hl
  have zw:=E47 hl
  have hP:=I69 l (by omega) (fun t ht=>by have:=z2 t ht;omega)
  cases hp:O4 l with
  | none =>
   unfold c4 at hP
   rw [hp] at hP
   refine k5 (k1 (k2 ?_))
   refine A3 (A2 (A4 Z Z) Z (B9 (hL) Z Z Z ?_));rintro _ rfl;refine A2 (A4 Z Z) Z (A2 (B1 Z Z) Z (A2 (B1 Z Z) Z (A2 (A5 Z Z) Z (A2 (A5 Z Z) Z (A6 ?_)))))
   refine k1 (k2 (k2 ?_))
   refine A3 (A2 (A4 Z Z) Z (A2 (E4 Z) Z (A6 ?_)))
   refine k1 ?_
   refine B2 rfl (fun ht=>?_) (fun ht=>?_)
   ·cases ht
   refine k5 (k1 (k2 ?_))
   refine A3 (A2 (A4 Z Z) Z (B9 (hP) Z Z Z ?_));rintro _ rfl;refine A2 (A4 Z Z) Z (A2 (B1 Z Z) Z (A2 (B1 Z Z) Z (C2 (G1 6 Z) Z (E3 (B7 TySz.out Z Z Z Z Z Z) (A2 (A5 Z Z) Z (A6 ?_))))))
   refine k1 (k2 (k2 ?_))
   refine A3 (A2 (A4 Z Z) Z (A2 (E4 Z) Z (A6 ?_)))
   refine k1 ?_
   refine B2 rfl (fun ht=>?_) (fun ht=>?_)
   ·refine k2 ?_
    refine A3 (A2 (F6 Z) Z (E3 (B7 TySz.out Z Z Z Z Z Z) (A2 (A5 Z Z) Z (A6 ?_))))
    refine k1 ?_
    refine F4 (J49 CHunk 2 J0 2 3 Z Z) ?_
    refine k10 (k11 ?_)
    exact B5 (rs:=[I5 comb0,E2 4]) (L5 rfl rfl rfl rfl rfl rfl rfl) (hfail rfl (by unfold M5;rw [if_neg h16,hl];dsimp only;rw [hp]))
   ·cases ht
  | some p =>
   unfold c4 at hP
   rw [hp] at hP
   obtain ⟨_,hsz,hci⟩:=F59 hp
   have hz:szC p.Hunks≤268435456:=by omega
   have hr:∀h∈p.Hunks,I9 h.Rows:=fun h hm=>(hci h hm).2
   have hF:=H50 p hz hr
   have hS:M5 O4 s=if G8 p≠0∨O3 p≠s then (comb0,4) else (p,0):=by unfold M5;rw [if_neg h16,hl];dsimp only;rw [hp]
   by_cases hc:G8 p=0
   ·rw [if_pos hc] at hF
    refine k5 (k1 (k2 ?_))
    refine A3 (A2 (A4 Z Z) Z (B9 (hL) Z Z Z ?_));rintro _ rfl;refine A2 (A4 Z Z) Z (A2 (B1 Z Z) Z (A2 (B1 Z Z) Z (A2 (A5 Z Z) Z (A2 (A5 Z Z) Z (A6 ?_)))))
    refine k1 (k2 (k2 ?_))
    refine A3 (A2 (A4 Z Z) Z (A2 (E4 Z) Z (A6 ?_)))
    refine k1 ?_
    refine B2 rfl (fun ht=>?_) (fun ht=>?_)
    ·cases ht
    refine k5 (k1 (k2 ?_))
    refine A3 (A2 (A4 Z Z) Z (B9 (hP) Z Z Z ?_));rintro _ rfl;refine A2 (A4 Z Z) Z (A2 (B1 Z Z) Z (A2 (B1 Z Z) Z (C2 (G1 6 Z) Z (E3 (B7 TySz.out Z Z Z Z Z Z) (A2 (A5 Z Z) Z (A6 ?_))))))
    refine k1 (k2 (k2 ?_))
    refine A3 (A2 (A4 Z Z) Z (A2 (E4 Z) Z (A6 ?_)))
    refine k1 ?_
    refine B2 rfl (fun ht=>?_) (fun ht=>?_)
    ·cases ht
    refine k5 (k1 (k2 (k2 ?_)))
    refine A3 (A2 (C7 Z Z Z) Z (B9 (hF) Z Z Z ?_));rintro _ rfl;refine A2 (A4 Z Z) Z (A2 (B1 Z Z) Z (A2 (B1 Z Z) Z (A2 (A5 Z Z) Z (A2 (A5 Z Z) Z (A6 ?_)))))
    refine k1 (k2 ?_)
    refine A3 (A2 (A4 Z Z) Z (A2 (L4 Z Z) Z (A2 (A4 Z Z) Z (A9 Z Z Z Z (fun hg=>by rw [hg];exact A4 Z Z) ?_))));refine A9 Z Z Z Z (fun hg=>by rw [hg];exact A4 Z Z) ?_;refine A9 Z Z Z Z (fun hg=>by rw [hg];exact j4 Z Z) ?_;refine A2 (B4 Z (fun h=>by first | rfl | (rw [h];rfl)) (fun h=>by first | rfl | (rw [h];rfl))) Z ?_;refine A6 ?_
    simp only [or_pick]
    refine k1 ?_
    by_cases hb:O3 p=s
    ·rw [if_neg (by simp [hc,hb])] at hS
     refine B2 rfl (fun ht=>?_) (fun ht=>?_)
     ·exfalso
      rcases A0 ht with h | h
      ·exact h rfl
      ·exact h hb
     refine k5 (k1 (k2 ?_))
     refine A3 (A2 (C7 Z Z Z) Z (E3 (B7 TySz.out Z Z Z Z Z Z) (A2 (A5 Z Z) Z (A6 ?_))))
     refine k1 (k10 ?_)
     exact B5 (rs:=[I5 p,E2 0]) (L5 rfl rfl rfl rfl rfl rfl rfl) (by unfold A45;rw [hS])
    ·rw [if_pos (.inr hb)] at hS
     refine B2 rfl (fun ht=>?_) (fun ht=>?_)
     rotate_left
     ·exact absurd (.inr hb) (A1 ht)
     refine k2 ?_
     refine A3 (A2 (F6 Z) Z (E3 (B7 TySz.out Z Z Z Z Z Z) (A2 (A5 Z Z) Z (A6 ?_))))
     refine k1 ?_
     refine F4 (J49 CHunk 2 J0 2 3 Z Z) ?_
     refine k10 (k11 ?_)
     exact B5 (rs:=[I5 comb0,E2 4]) (L5 rfl rfl rfl rfl rfl rfl rfl) (hfail hS rfl)
   ·rw [if_neg hc] at hF
    rw [if_pos (.inl hc)] at hS
    refine k5 (k1 (k2 ?_))
    refine A3 (A2 (A4 Z Z) Z (B9 (hL) Z Z Z ?_));rintro _ rfl;refine A2 (A4 Z Z) Z (A2 (B1 Z Z) Z (A2 (B1 Z Z) Z (A2 (A5 Z Z) Z (A2 (A5 Z Z) Z (A6 ?_)))))
    refine k1 (k2 (k2 ?_))
    refine A3 (A2 (A4 Z Z) Z (A2 (E4 Z) Z (A6 ?_)))
    refine k1 ?_
    refine B2 rfl (fun ht=>?_) (fun ht=>?_)
    ·cases ht
    refine k5 (k1 (k2 ?_))
    refine A3 (A2 (A4 Z Z) Z (B9 (hP) Z Z Z ?_));rintro _ rfl;refine A2 (A4 Z Z) Z (A2 (B1 Z Z) Z (A2 (B1 Z Z) Z (C2 (G1 6 Z) Z (E3 (B7 TySz.out Z Z Z Z Z Z) (A2 (A5 Z Z) Z (A6 ?_))))))
    refine k1 (k2 (k2 ?_))
    refine A3 (A2 (A4 Z Z) Z (A2 (E4 Z) Z (A6 ?_)))
    refine k1 ?_
    refine B2 rfl (fun ht=>?_) (fun ht=>?_)
    ·cases ht
    refine k5 (k1 (k2 (k2 ?_)))
    refine A3 (A2 (C7 Z Z Z) Z (B9 (hF) Z Z Z ?_));rintro _ rfl;refine A2 (A4 Z Z) Z (A2 (B1 Z Z) Z (A2 (B1 Z Z) Z (A2 (A5 Z Z) Z (A2 (A5 Z Z) Z (A6 ?_)))))
    refine k1 (k2 ?_)
    refine A3 (A2 (A4 Z Z) Z (A2 (L4 Z Z) Z (A2 (A4 Z Z) Z (A9 Z Z Z Z (fun hg=>by rw [hg];exact A4 Z Z) ?_))));refine A9 Z Z Z Z (fun hg=>by rw [hg];exact A4 Z Z) ?_;refine A9 Z Z Z Z (fun hg=>by rw [hg];exact j4 Z Z) ?_;refine A2 (B4 Z (fun h=>by first | rfl | (rw [h];rfl)) (fun h=>by first | rfl | (rw [h];rfl))) Z ?_;refine A6 ?_
    simp only [or_pick]
    refine k1 ?_
    refine B2 rfl (fun ht=>?_) (fun ht=>?_)
    rotate_left
    ·exact absurd (.inl hc) (A1 ht)
    refine k2 ?_
    refine A3 (A2 (F6 Z) Z (E3 (B7 TySz.out Z Z Z Z Z Z) (A2 (A5 Z Z) Z (A6 ?_))))
    refine k1 ?_
    refine F4 (J49 CHunk 2 J0 2 3 Z Z) ?_
    refine k10 (k11 ?_)
    exact B5 (rs:=[I5 comb0,E2 4]) (L5 rfl rfl rfl rfl rfl rfl rfl) (hfail hS rfl)
theorem E48 {c:Comb} (hc:G8 c=0) (hw:(O3 c).length≤600000):FnOk Tryz.prog 36 [F5 (O3 c)] (fun rs=>rs=[I5 c,E2 0]):=by
 have h:=B59 (O3 c) hw
 unfold A45 at h
 rw [D47 (fun p hg=>D83 hg) hc] at h
 exact h
theorem H62:FnOk Tryz.prog 39 [] (fun rs=>rs=[D3 true]):=by
 have hf:I4 3=[51]:=by rw [D00 (by decide) (by decide),Lib.decDigits,dif_pos (by decide)];rfl
 have e1:O3 ⟨[120],true,3,[]⟩=[100,105,102,102,32,45,45,99,99,32,120,10,112,97,114,101,110,116,115,32,51,10]:=by
  show (((W1 true++H6 [120]++[10])::(parS++I4 3++[10])::([]:List Str))).flatten=_
  rw [hf];decide
 have e2:G8 ⟨[120],true,3,[]⟩=0:=by
  unfold G8
  rw [e1];decide
 have hp:=E48 (c:=⟨[120],true,3,[]⟩) e2 (by rw [e1];decide)
 rw [e1] at hp
 have hr1:=G05 [45,32,98,10] 2
 have hr2:=G05 [43,45,120] 2
 rw [A77 (show x7 [45,32,98,10] 2=some ⟨true,1,[98,10]⟩ by decide)] at hr1
 rw [b9 (show x7 [43,45,120] 2=none by decide)] at hr2
 refine FnOk.intro Tryz.func39 (by decide) Z Z Z Z ?_
 refine k2 ?_
 refine A3 (A2 (A5 Z Z) Z (A6 ?_))
 refine k1 (k2 ?_)
 refine A3 (B9 (hr1) Z Z Z ?_);rintro _ rfl;refine A2 (A4 Z Z) Z (A2 (B1 Z Z) Z (A2 (B1 Z Z) Z (C2 (G1 1 Z) Z (E3 (B7 TySz.out Z Z Z Z Z Z) (A2 (A5 Z Z) Z (A6 ?_))))))
 refine k1 (k2 ?_)
 refine A3 (B9 (hr2) Z Z Z ?_);rintro _ rfl;refine A2 (A4 Z Z) Z (A2 (B1 Z Z) Z (A2 (B1 Z Z) Z (C2 (G1 3 Z) Z (E3 (B7 TySz.out Z Z Z Z Z Z) (A2 (A5 Z Z) Z (A6 ?_))))))
 refine k1 (k2 ?_)
 refine A3 (B9 (hp) Z Z Z ?_);rintro _ rfl;refine A2 (A4 Z Z) Z (A2 (B1 Z Z) Z (A2 (B1 Z Z) Z (C2 (G1 5 Z) Z (E3 (B7 TySz.out Z Z Z Z Z Z) (A2 (A5 Z Z) Z (A6 ?_))))))
 refine k1 (k2 ?_)
 refine A3 (A2 (A4 Z Z) Z (A2 (A4 Z Z) Z (A9 Z Z Z Z (fun hg=>by rw [hg];exact A4 Z Z) ?_)));refine A9 Z Z Z Z (fun hg=>by rw [hg];exact E4 Z) ?_;refine A2 (B4 Z (fun h=>by first | rfl | (rw [h];rfl)) (fun h=>by first | rfl | (rw [h];rfl))) Z ?_;refine A2 (A4 Z Z) Z (A9 Z Z Z Z (fun hg=>by rw [hg];exact C7 Z Z Z) ?_);refine A9 Z Z Z Z (fun hg=>by rw [hg];exact F6 Z) ?_;refine A9 Z Z Z Z (fun hg=>by rw [hg];exact J02 (rowV ⟨true,1,[98,10]⟩) (rowV ⟨true,1,[98,10]⟩) Z Z Z Z ((row_eq _ _).trans (decide_eq_true Z))) ?_;refine A2 (B4 Z (fun h=>by first | rfl | (rw [h];rfl)) (fun h=>by first | rfl | (rw [h];rfl))) Z ?_;refine A2 (A4 Z Z) Z (A9 Z Z Z Z (fun hg=>by rw [hg];exact A4 Z Z) ?_);refine A9 Z Z Z Z (fun hg=>by rw [hg];exact F1 Z Z) ?_;refine A2 (B4 Z (fun h=>by first | rfl | (rw [h];rfl)) (fun h=>by first | rfl | (rw [h];rfl))) Z ?_;refine A2 (A4 Z Z) Z (A9 Z Z Z Z (fun hg=>by rw [hg];exact A7 Z) ?_);refine A9 Z Z Z Z (fun hg=>by rw [hg];exact B0 Z Z Z) ?_;refine A9 Z Z Z Z (fun hg=>by rw [hg];exact F1 Z Z) ?_;refine A2 (B4 Z (fun h=>by first | rfl | (rw [h];rfl)) (fun h=>by first | rfl | (rw [h];rfl))) Z ?_;refine A2 (A4 Z Z) Z (A9 Z Z Z Z (fun hg=>by rw [hg];exact A7 Z) ?_);refine A9 Z Z Z Z (fun hg=>by rw [hg];exact B0 Z Z Z) ?_;refine A2 (B4 Z (fun h=>by first | rfl | (rw [h];rfl)) (fun h=>by first | rfl | (rw [h];rfl))) Z ?_;refine A2 (A4 Z Z) Z (A9 Z Z Z Z (fun hg=>by rw [hg];exact A7 Z) ?_);refine A9 Z Z Z Z (fun hg=>by rw [hg];exact B0 Z Z Z) ?_;refine A9 Z Z Z Z (fun hg=>by rw [hg];exact V1 Z Z) ?_;refine A2 (B4 Z (fun h=>by first | rfl | (rw [h];rfl)) (fun h=>by first | rfl | (rw [h];rfl))) Z ?_;refine A2 (A5 Z Z) Z (A6 ?_)
 refine k1 (k10 ?_)
 exact B5 (rs:=[D3 true]) (F8 rfl rfl rfl) rfl
set_option maxHeartbeats 1000000
end Go.Proofs.YtgejaedjnbjpoaaGreatDoor
namespace Go.Proofs.YtgejaedjnbjpoaaGreatDoor
open Go Go.AL
set_option maxRecDepth 100000
set_option maxHeartbeats 1000000
set_option maxHeartbeats 2000000
end Go.Proofs.YtgejaedjnbjpoaaGreatDoor
namespace Go.Proofs.YtgejaedjnbjpoaaGreatDoor
open Go Go.AL
set_option maxRecDepth 100000
set_option maxHeartbeats 1000000
theorem H63 (s:Str) (what pos c:Int) (hs:s.length≤1099511627776):FnOk Tryz.prog 35 [F5 s,E2 what,E2 pos,E2 c]
  (fun rs=>∃t:Str,rs=[F5 t]∧t.length≤s.length+1):=by
 obtain ⟨a1,a2⟩:=i8 pos (n:=(s.length:Int)+1) (by omega)
 obtain ⟨i,hi⟩:∃i:Nat,P8 pos ((s.length:Int)+1)=i:=⟨(P8 pos ((s.length:Int)+1)).toNat,by omega⟩
 have hM:=B54 pos ((s.length:Int)+1) (by omega) (by omega)
 rw [hi] at hM a1 a2
 have hil:i≤s.length:=by omega
 obtain ⟨x,hx⟩:∃x,x=P8 what 4:=⟨_,rfl⟩
 have hW:=B54 what 4 (by omega) (by omega)
 rw [←hx] at hW
 obtain ⟨d,hd⟩:∃d:UInt8,IntKind.u8.wrap c=(d.toNat:Int):=by
  refine ⟨UInt8.ofNat (IntKind.u8.wrap c).toNat,?_⟩
  have hw:IntKind.u8.wrap c=c % 256:=rfl
  rw [hw,UInt8.toNat_ofNat']
  omega
 refine FnOk.intro Tryz.func35 (by decide) Z Z Z Z ?_
 refine k2 ?_
 refine A3 (A2 (A5 Z Z) Z (A6 ?_))
 refine k1 (k2 ?_)
 refine A3 (A2 (A4 Z Z) Z (A2 (A4 Z Z) Z (A2 (D5 Z) Z (A2 (C1 Z Z (by omega)) Z (B9 (hM) Z Z Z ?_)))));rintro _ rfl;refine A2 (A5 Z Z) Z (A6 ?_)
 refine k1 (k2 (k2 ?_))
 refine A3 (A2 (A4 Z Z) Z (B9 (hW) Z Z Z ?_));rintro _ rfl;refine A6 ?_
 refine k1 (k3 (k2 ?_))
 refine A3 (A2 (F1 Z Z) Z (A2 (A5 Z Z) Z (A6 ?_)))
 refine k1 ?_
 refine B2 rfl (fun ht=>?_) (fun ht=>?_)
 ·refine k2 ?_
  refine C4 (by kernel_rfl) (by kernel_rfl) (A8 (A4 Z Z) Z Z (A8 (A4 Z Z) Z Z (A8 (j5 Z Z (by omega) (by omega)) Z Z (A8 (A4 Z Z) Z Z (A8 (I1 Z) Z Z ?_)))));rw [hd];refine A8 (C6 (c:=u8C) (ys:=[_]) (D8 Z Z Z Z F0) Z Z Z) Z Z (A8 (M4 TyStr.out Z (.pure _ _ _ _)) Z Z (A8 (E7 Z Z (by simp;omega)) Z Z (A8 (A4 Z Z) Z Z (A8 (A4 Z Z) Z Z (A8 (V2 Z Z (by omega) (by omega)) Z Z (A8 (E7 Z Z (by simp;omega)) Z Z (A8 (A5 Z Z) Z Z (H9 ?_))))))))
  refine k1 (k10 (k12 (k11 ?_)))
  exact B5 (F8 rfl rfl rfl) ⟨_,rfl,by simp;omega⟩
 refine k2 ?_
 refine A3 (A2 (F1 Z Z) Z (A2 (A5 Z Z) Z (A6 ?_)))
 refine k1 ?_
 refine B2 rfl (fun ht=>?_) (fun ht=>?_)
 ·refine k2 ?_
  refine C4 (by kernel_rfl) (by kernel_rfl) (A8 (A4 Z Z) Z Z (A8 (A4 Z Z) Z Z (A8 (j5 Z Z (by omega) (by omega)) Z Z (A8 (A4 Z Z) Z Z (A8 (A4 Z Z) Z Z (A8 (C1 Z Z (by omega)) Z Z (A8 (A4 Z Z) Z Z (A8 (D5 Z) Z Z (A8 (F22 Z Z) Z Z (A8 (V2 Z Z (by omega) (by omega)) Z Z (A8 (E7 Z Z (by simp;omega)) Z Z (A8 (A5 Z Z) Z Z (H9 ?_)))))))))))))
  refine k1 (k10 (k12 (k11 ?_)))
  exact B5 (F8 rfl rfl rfl) ⟨_,rfl,by simp;omega⟩
 refine k2 ?_
 refine A3 (A2 (F1 Z Z) Z (A2 (A5 Z Z) Z (A6 ?_)))
 refine k1 ?_
 refine B2 rfl (fun ht=>?_) (fun ht=>?_)
 ·refine k2 ?_
  refine C4 (by kernel_rfl) (by kernel_rfl) (A8 (A4 Z Z) Z Z (A8 (A4 Z Z) Z Z (A8 (j5 Z Z (by omega) (by omega)) Z Z (A8 (A4 Z Z) Z Z (A8 (I1 Z) Z Z ?_)))));rw [hd];refine A8 (C6 (c:=u8C) (ys:=[_]) (D8 Z Z Z Z F0) Z Z Z) Z Z (A8 (M4 TyStr.out Z (.pure _ _ _ _)) Z Z (A8 (E7 Z Z (by simp;omega)) Z Z (A8 (A4 Z Z) Z Z (A8 (A4 Z Z) Z Z (A8 (C1 Z Z (by omega)) Z Z (A8 (A4 Z Z) Z Z (A8 (D5 Z) Z Z (A8 (F22 Z Z) Z Z (A8 (V2 Z Z (by omega) (by omega)) Z Z (A8 (E7 Z Z (by simp;omega)) Z Z (A8 (A5 Z Z) Z Z (H9 ?_))))))))))))
  refine k1 (k10 (k12 (k11 ?_)))
  exact B5 (F8 rfl rfl rfl) ⟨_,rfl,by simp;omega⟩
 refine k5 (k2 ?_)
 refine A3 (A2 (A4 Z Z) Z (A2 (A5 Z Z) Z (A6 ?_)))
 refine k1 (k10 ?_)
 exact B5 (F8 rfl rfl rfl) ⟨_,rfl,by omega⟩
set_option maxHeartbeats 1000000
theorem F65 {s:Str} (hs:s.length≤600000):szC (M5 O4 s).1.Hunks≤268435456:=by
 by_cases h:(M5 O4 s).2=0
 ·unfold M5 at h ⊢
  split at h
  ·cases h
  ·rename_i h1
   rw [if_neg h1]
   split at h
   ·cases h
   ·rename_i l hl
    split at h
    ·cases h
    ·rename_i p hp
     split at h
     ·cases h
     ·rename_i h2
      rw [if_neg h2]
      have:=(F59 hp).2.1
      have:=E47 hl
      dsimp only
      omega
 ·rw [C42 h]
  split<;>exact Nat.zero_le _
set_option maxHeartbeats 1000000
def A29 (raw:List Int) (n:Int):List Str:=a8 raw (2+P8 n 4).toNat 7
theorem G89 (raw:List Int) (n:Int):∃x r,A29 raw n=x::r∧x.length≤140∧∀b∈r,b.length≤140:=by
 have hm:=i8 n (n:=4) (by omega)
 have hl:(A29 raw n).length=(2+P8 n 4).toNat:=by simp [A29,a8]
 have hb:∀b∈A29 raw n,b.length≤140:=by
  intro b hb
  obtain ⟨p,_,rfl⟩:=List.mem_map.1 hb
  have:=E32 raw 7 p (by omega);omega
 cases h:A29 raw n with
 | nil=>rw [h] at hl;simp at hl;omega
 | cons x r=>exact ⟨x,r,rfl,hb x (by rw [h];simp),fun b hb'=>hb b (by rw [h];simp [hb'])⟩
def r8 (path result:Str) (parents:List Str) (ctx:Int) (d:Bool):Comb × Int :=
 if V9 path=false then (comb0,120) else if (J9 result parents).2≠0 then (comb0,(J9 result parents).2) else
 if (V5 (J9 result parents).1 ctx d).2≠0 then (comb0,(V5 (J9 result parents).1 ctx d).2) else A85 path (J9 result parents).1 (V5 (J9 result parents).1 ctx d).1 d
theorem G90:∀s∈lineTab,s.count 10=0:=by decide
theorem E49 (k:Int):(w8 k).count 10=0:=by
 unfold w8
 rw [J82]
 cases h:lineTab[(P8 k 10).toNat]? with
 | none=>rfl
 | some s=>exact G90 s (J93 h)
theorem F08 (raw:List Int) (from' kinds:Int) (m:Nat):(T7 raw from' kinds m).count 10=m:=by
 induction m with
 | zero=>simp [T7]
 | succ m ih=>rw [A25,K26,K26,ih,E49];rfl
theorem E50 (raw:List Int) (from' n kinds:Int) (h1:0≤n):((X9 raw from' n kinds).count 10:Int)≤n:=by
 have h:=i8 (o9 raw from') (n:=n+1) (by omega)
 have h2:=F08 raw from' kinds (P8 (o9 raw from') (n+1)).toNat
 have h3:=(List.take_sublist ((T7 raw from' kinds (P8 (o9 raw from') (n+1)).toNat).length - 1) (T7 raw from' kinds (P8 (o9 raw from') (n+1)).toNat)).count_le (a:=(10:UInt8))
 unfold X9
 simp only
 split
 ·omega
 ·omega
theorem B05 (raw:List Int) (from':Int):∀(l:List Str) (i:Nat) (s:Str),(p7 raw from' i s l).count 10≤s.count 10+l.flatten.count 10+l.length
 | [],i,s=>by simp [p7]
 | x::r,i,s=>by
  have h1:=B05 raw from' r (i+1) s
  have h2:=B05 raw from' r (i+1) (s++w8 (o9 raw (from'+40+(i:Int)))++[10]++x)
  have h3:=B05 raw from' r (i+1) (s++x)
  have h4:=E49 (o9 raw (from'+40+(i:Int)))
  have h5:List.count (10:UInt8) [10]=1:=rfl
  simp only [K26,h4,h5] at h2 h3
  unfold p7
  simp only [J91,K26,J78]
  split
  ·omega
  ·split<;>omega
theorem H64 (raw:List Int) (p:Nat):(w9 raw 7 p).count 10≤15:=by
 have h1:=E50 raw (600+50*(p:Int)) 7 4 (by omega)
 have h2:=E50 raw 0 7 5 (by omega)
 have h3:=B05 raw (600+50*(p:Int)) (D2 (X9 raw 0 7 5)) 0 []
 have h4:=D88 (X9 raw 0 7 5)
 rw [X4] at h3
 have h5:List.count (10:UInt8) ([]:Str)=0:=rfl
 unfold w9
 split
 ·omega
 ·split
  ·omega
  ·unfold C27;omega
theorem H65 (raw:List Int) (n:Int):∀b∈A29 raw n,(D2 b).length≤16∧b.length≤140:=by
 intro b hb
 obtain ⟨p,_,rfl⟩:=List.mem_map.1 hb
 have h1:=E32 raw 7 p (by omega)
 have h2:=H64 raw p
 have h3:=D88 (w9 raw 7 p)
 omega
theorem J25 (raw:List Int) (n:Int) {x:Str} {r:List Str} (h:A29 raw n=x::r):1≤r.length∧r.length≤4:=by
 have hm:=i8 n (n:=4) (by omega)
 have hl:(A29 raw n).length=(2+P8 n 4).toNat:=by simp [A29,a8]
 rw [h,J78] at hl
 omega
structure Small16 (x:Str) (r:List Str):Prop where
 n:1≤r.length∧r.length≤4
 hx:x.length≤140
 hr:∀b∈r,b.length≤140
 rows:I9 (J9 x r).1.Rows
 len:(J9 x r).1.Rows.length≤1105
 txt:∀q∈(J9 x r).1.Rows,q.Text.length≤140
theorem H66 {raw:List Int} {n:Int} {x:Str} {r:List Str} (h:A29 raw n=x::r):Small16 x r:=by
 have h1:=J25 raw n h
 have h2:=H65 raw n
 rw [h] at h2
 have hx:=h2 x (by simp)
 have hr:∀b∈r,(D2 b).length≤16∧b.length≤140:=fun b hb=>h2 b (by simp [hb])
 obtain ⟨k1,k2,k3⟩:=G36 x r 16 140 hx hr
 have h4:r.length*16+1≤65:=by omega
 exact ⟨h1,hx.2,fun b hb=>(hr b hb).2,k1,by omega,k3⟩
theorem textsLen_le {rows:List Row} {B:Nat} (h:∀q∈rows,q.Text.length≤B):P0 rows≤rows.length*B∧(rows.map N0).sum≤rows.length*(B+96)∧∀n,(rows.map (F15 n)).sum≤rows.length*(B+n+29):=by
 unfold P0
 induction rows with
 | nil=>simp
 | cons x r ih =>
  obtain ⟨i1,i2,i3⟩:=ih fun q hq=>h q (by simp [hq])
  have hx:=h x (by simp)
  simp only [J85,J91,J77,K03,J78,K09,Nat.one_mul]
  simp only [Nat.mul_add] at i2 i3 ⊢
  refine ⟨by omega,by unfold N0 at i2 ⊢;omega,fun n=>?_⟩
  have:=i3 n
  unfold F15 at this ⊢
  omega
theorem Small16.sums {x:Str} {r:List Str} (h:Small16 x r):P0 (J9 x r).1.Rows≤154700∧((J9 x r).1.Rows.map N0).sum≤260780∧∀n,n≤32→((J9 x r).1.Rows.map (F15 n)).sum≤1105*201:=by
 obtain ⟨h1,h2,h3⟩:=textsLen_le h.txt
 have h4:=h.len
 refine ⟨by omega,by omega,fun n hn=>?_⟩
 refine Nat.le_trans (h3 n) ?_
 exact Nat.mul_le_mul h4 (by omega)
theorem H67 (path x:Str) (r:List Str) (ctx:Int) (d:Bool) (h:Small16 x r):FnOk Tryz.prog 48 [F5 path,F5 x,c5 r,E2 ctx,D3 d] (fun rs=>rs=[I5 (r8 path x r ctx d).1,E2 (r8 path x r ctx d).2]):=by
 have hx:=h.hx
 obtain ⟨s1,s2,s3⟩:=h.sums
 have hl:=h.len
 have hrows:=h.rows
 have hm:=I55 x r (by omega) (fun b hb=>by have:=h.hr b hb;omega)
 obtain ⟨t,e,hte⟩:∃t e,J9 x r=(t,e):=⟨_,_,rfl⟩
 rw [hte] at s1 s2 hl hrows hm
 dsimp only at s1 s2 hl hrows hm
 have hh:=G74 t ctx d hrows (by omega) (by omega)
 have hin:=J44 t ctx d
 obtain ⟨sp,e2,hsp⟩:∃sp e2,V5 t ctx d=(sp,e2):=⟨_,_,rfl⟩
 rw [hsp] at hh hin
 dsimp only at hh hin
 have hc:=rcut_ok path t sp d hrows (by omega) (by omega) (by have:=hin.1;omega)
 have hres:r8 path x r ctx d=if V9 path=false then (comb0,120) else if e≠0 then (comb0,e) else if e2≠0 then (comb0,e2) else A85 path t sp d:=by
  unfold r8;rw [hte];dsimp only;rw [hsp]
 rw [hres]
 refine FnOk.intro Tryz.func48 (by decide) Z Z Z Z ?_
 refine k2 ?_
 refine A3 (C2 (G1 10 Z) Z (A2 (A5 Z Z) Z (A6 ?_)))
 refine k1 (k2 (k2 ?_))
 refine A3 (A2 (A4 Z Z) Z (B9 (E41 path) Z Z Z ?_));rintro _ rfl;refine A2 (E4 Z) Z (A6 ?_)
 refine k1 ?_
 refine B2 rfl (fun ht=>?_) (fun ht=>?_)
 ·have h:V9 path=false:=by simpa using ht
  refine k2 ?_
  refine A3 (A2 (F6 Z) Z (E3 (B7 TySz.out Z Z Z Z Z Z) (A2 (A5 Z Z) Z (A6 ?_))))
  refine k1 ?_
  refine F4 (J49 CHunk 2 J0 10 3 Z Z) ?_
  refine k10 (k11 ?_)
  exact B5 (rs:=[I5 comb0,E2 120]) (L5 rfl rfl rfl rfl rfl rfl rfl) (by rw [if_pos h])
 have h1:V9 path=true:=by simpa using ht
 rw [if_neg (by rw [h1];decide)]
 refine k5 (k1 (k2 ?_))
 refine A3 (A2 (A4 Z Z) Z (A2 (A4 Z Z) Z (B9 (hm) Z Z Z ?_)));rintro _ rfl;refine A2 (A4 Z Z) Z (A2 (B1 Z Z) Z (A2 (B1 Z Z) Z (C2 (G1 12 Z) Z (E3 (B7 TySz.out Z Z Z Z Z Z) (A2 (A5 Z Z) Z (A6 ?_))))))
 refine k1 (k2 (k2 ?_))
 refine A3 (A2 (A4 Z Z) Z (A2 (L4 Z Z) Z (A6 ?_)))
 refine k1 ?_
 refine B2 rfl (fun ht=>?_) (fun ht=>?_)
 ·have h2:=A0 ht
  refine k2 ?_
  refine A3 (A2 (F6 Z) Z (A2 (A4 Z Z) Z (E3 (B7 TySz.out Z Z Z Z Z Z) (A2 (A5 Z Z) Z (A6 ?_)))))
  refine k1 ?_
  refine F4 (J49 CHunk 2 J0 10 3 Z Z) ?_
  refine k10 (k11 ?_)
  exact B5 (rs:=[I5 comb0,E2 e]) (L5 rfl rfl rfl rfl rfl rfl rfl) (by rw [if_pos h2])
 have h2:=A1 ht
 rw [if_neg h2]
 refine k5 (k1 (k2 ?_))
 refine A3 (A2 (C7 Z Z Z) Z (A2 (A4 Z Z) Z (A2 (A4 Z Z) Z (B9 (hh) Z Z Z ?_))));rintro _ rfl;refine A2 (A4 Z Z) Z (A2 (B1 Z Z) Z (A2 (B1 Z Z) Z (A2 (A5 Z Z) Z (A2 (A5 Z Z) Z (A6 ?_)))))
 refine k1 (k2 (k2 ?_))
 refine A3 (A2 (A4 Z Z) Z (A2 (L4 Z Z) Z (A6 ?_)))
 refine k1 ?_
 refine B2 rfl (fun ht=>?_) (fun ht=>?_)
 ·have h3:=A0 ht
  refine k2 ?_
  refine A3 (A2 (F6 Z) Z (A2 (A4 Z Z) Z (E3 (B7 TySz.out Z Z Z Z Z Z) (A2 (A5 Z Z) Z (A6 ?_)))))
  refine k1 ?_
  refine F4 (J49 CHunk 2 J0 10 3 Z Z) ?_
  refine k10 (k11 ?_)
  exact B5 (rs:=[I5 comb0,E2 e2]) (L5 rfl rfl rfl rfl rfl rfl rfl) (by rw [if_pos h3])
 have h3:=A1 ht
 rw [if_neg h3]
 refine k5 (k1 (k2 ?_))
 refine A3 (A2 (A4 Z Z) Z (A2 (C7 Z Z Z) Z (A2 (A4 Z Z) Z (A2 (A4 Z Z) Z (B9 (hc) Z Z Z ?_)))));rintro _ rfl;refine A2 (B1 Z Z) Z (A2 (B1 Z Z) Z (E3 (B7 TySz.out Z Z Z Z Z Z) (A2 (A5 Z Z) Z (A6 ?_))))
 refine k1 (k10 ?_)
 exact B5 (L5 rfl rfl rfl rfl rfl rfl rfl) rfl
theorem cut18_w {path:Str} {t:Table} {sp:List Span} {d:Bool} (h:(A85 path t sp d).2=0):V9 path=true∧U5 t=0∧∃hs,A01 t.Parents.toNat t.Rows 0 [] sp=some hs∧G8 ⟨path,d,t.Parents,hs⟩=0∧A85 path t sp d=(⟨path,d,t.Parents,hs⟩,0):=by
 unfold A85 at h ⊢
 split at h
 ·cases h
 ·rename_i h1
  rw [if_neg h1]
  split at h
  ·rename_i h2;exact absurd h h2
  ·rename_i h2
   rw [if_neg h2]
   refine ⟨by simpa using h1,by omega,?_⟩
   cases hg:A01 t.Parents.toNat t.Rows 0 [] sp with
   | none=>rw [hg] at h;cases h
   | some hs =>
    rw [hg] at h
    dsimp only at h ⊢
    split at h
    ·rename_i h3;exact absurd h h3
    ·rename_i h3
     exact ⟨hs,rfl,by omega,by rw [if_neg h3]⟩
theorem I70 {path x:Str} {r:List Str} {ctx:Int} {d:Bool} (h:(r8 path x r ctx d).2=0):(J9 x r).2=0∧(V5 (J9 x r).1 ctx d).2=0∧r8 path x r ctx d=A85 path (J9 x r).1 (V5 (J9 x r).1 ctx d).1 d:=by
 unfold r8 at h ⊢
 split at h
 ·cases h
 ·rename_i h1
  rw [if_neg h1]
  split at h
  ·rename_i h2;exact absurd h h2
  ·rename_i h2
   rw [if_neg h2]
   split at h
   ·rename_i h3;exact absurd h h3
   ·rename_i h3
    rw [if_neg h3]
    exact ⟨by omega,by omega,rfl⟩
theorem H68 {path x:Str} {r:List Str} {ctx:Int} {d:Bool} (h:(r8 path x r ctx d).2≠0):(r8 path x r ctx d).1=comb0:=by
 unfold r8 at h ⊢
 split
 ·rfl
 ·rename_i h1
  rw [if_neg h1] at h
  split
  ·rfl
  ·rename_i h2
   rw [if_neg h2] at h
   split
   ·rfl
   ·rename_i h3
    rw [if_neg h3] at h
    unfold A85 at h ⊢
    split
    ·rfl
    ·rename_i h4
     rw [if_neg h4] at h
     split
     ·rfl
     ·rename_i h5
      rw [if_neg h5] at h
      cases hg:A01 (J9 x r).1.Parents.toNat (J9 x r).1.Rows 0 [] (V5 (J9 x r).1 ctx d).1 with
      | none=>rfl
      | some hs =>
       rw [hg] at h
       dsimp only at h ⊢
       split
       ·rfl
       ·rename_i h6
        rw [if_neg h6] at h;exact absurd rfl h
theorem I71:CFit comb0:=⟨⟨by decide,by decide⟩,by decide,by decide,(fun h hh=>by cases hh),fun h hh=>by cases hh⟩
theorem H69 {path x:Str} {r:List Str} {ctx:Int} {d:Bool} (hp:path.length≤400) (h:Small16 x r):CFit (r8 path x r ctx d).1∧(O3 (r8 path x r ctx d).1).length≤420000:=by
 by_cases he:(r8 path x r ctx d).2=0
 ·obtain ⟨_,_,e1⟩:=I70 he
  rw [e1] at he ⊢
  obtain ⟨_,c1,hs,c2,c3,e2⟩:=cut18_w he
  obtain ⟨s1,s2,s3⟩:=h.sums
  obtain ⟨n1,n2⟩:=D63 c1
  obtain ⟨z1,z2⟩:=I14 (n:=(J9 x r).1.Parents.toNat) (by omega) h.rows (by omega) c2
  rw [e2]
  dsimp only
  refine ⟨C30 c3 z1 z2,?_⟩
  have hw:=H25 ⟨path,d,(J9 x r).1.Parents,hs⟩
  dsimp only at hw
  obtain ⟨n,hn⟩:∃n:Nat,(J9 x r).1.Parents=n:=⟨(J9 x r).1.Parents.toNat,by omega⟩
  have hnr:(J9 x r).1.Parents=r.length∨(J9 x r).1.Parents=0:=by
   unfold J9
   split
   ·exact .inr rfl
   ·dsimp only
    split
    ·exact .inr rfl
    ·exact .inl rfl
  have hr4:=h.n
  rw [hn,J83] at hw c2
  rw [hn]
  have hn4:n≤4:=by omega
  have h1:=G35 (F15 n) (28*(n+1)+2) n (J9 x r).1.Rows (V5 (J9 x r).1 ctx d).1 0 [] hs (Int.le_refl _) c2 (by simp) (by simp)
  have h2:=h1.1
  have h3:=h1.2
  have h4:=s3 n (by omega)
  have h5:=h.len
  simp only [J81] at h3
  have h6:(28*(n+1)+2)*hs.length≤142*1105:=Nat.mul_le_mul (by omega) (by omega)
  omega
 ·rw [H68 he]
  exact ⟨I71,by have:=H25 comb0;have e1:comb0.Path.length=0:=rfl;have e2:comb0.Hunks=[]:=rfl;rw [e1,e2] at this;simp only [K12,K24] at this;omega⟩
theorem I72 (raw:List Int) (n ctx:Int) (d:Bool):FnOk Tryz.prog 34 [T0 raw,E2 n,E2 ctx,D3 d] (fun rs=>∃(c:Comb) (s:Str),rs=[I5 c,F5 s]∧s.length≤420000):=by
 obtain ⟨x,r,hpk,_,_⟩:=G89 raw n
 have hsm:=H66 hpk
 have hm:=i8 n (n:=4) (by omega)
 have hlen:(x::r).length=(2+P8 n 4).toNat:=by rw [←hpk];simp [A29,a8]
 have hb:=J05 raw (2+P8 n 4).toNat 7 (by omega) (by omega)
 have hcast:(((2+P8 n 4).toNat:Nat):Int)=2+P8 n 4:=by omega
 rw [hcast] at hb
 have hbr:a8 raw (2+P8 n 4).toNat 7=x::r:=hpk
 rw [hbr] at hb
 have hM:=H67 [120,32,121] x r (P8 ctx 3) d hsm
 obtain ⟨f1,f2⟩:=H69 (path:=[120,32,121]) (ctx:=P8 ctx 3) (d:=d) (by decide) hsm
 have hW:=B56 _ f1
 obtain ⟨c,e,hce⟩:∃c e,r8 [120,32,121] x r (P8 ctx 3) d=(c,e):=⟨_,_,rfl⟩
 rw [hce] at hM hW f2
 dsimp only at hM hW f2
 obtain ⟨w,hw⟩:∃w,w=O3 c:=⟨_,rfl⟩
 rw [←hw] at hW f2
 refine FnOk.intro Tryz.func34 (by decide) Z Z Z Z ?_
 refine k2 ?_
 refine A3 (C2 (G1 8 Z) Z (A2 (A5 Z Z) Z (A6 ?_)))
 refine k1 (k2 ?_)
 refine A3 (A2 (A4 Z Z) Z (A2 (A4 Z Z) Z (B9 (B54 n 4 (by omega) (by omega)) Z Z Z ?_)));rintro _ rfl;refine A2 (C1 Z Z (by omega)) Z (B9 (hb) Z Z Z ?_);rintro _ rfl;refine A2 (A5 Z Z) Z (A6 ?_)
 refine k1 (k2 ?_)
 refine F96 [13,12] [[],[12],[13,12]] [(0,[12]),(1,[12]),(2,[12]),(3,[12]),(4,[12]),(5,[12]),(6,[12]),(7,[12]),(8,[12]),(9,[12]),(10,[12]),(11,[12]),(11,[13,12])] (by kernel_rfl) (by kernel_rfl) (A73 Z (A4 Z Z) (A73 Z (B3 Z (.pure _ _ _ _) Z (by omega) (show (x::r)[(0:Int).toNat]?=some x from Z)) (A73 Z (B6 Z Z) (A73 Z (A4 Z Z) (A73 Z (D11 Z (.pure _ _ _ _) Z (by (first | omega | (simp only [J78];omega))) (by (first | omega | (simp only [J78];omega)))) (A73 Z (A4 Z Z) (A73 Z (G7 (B54 ctx 3 (by omega) (by omega)) Z Z) (A73 Z (A4 Z Z) (A73 Z (G7 (hM) Z Z) (A73 Z (A4 Z Z) (A73 Z (B1 Z Z) (A73 Z (B1 Z Z) (a_alloc 11 Z Z (a_store (G48 TySz.out Z Z Z Z Z Z) (A73 Z (A5 Z Z) ?_)))))))))))))));refine a_nil rfl ?_ ?_
 ·refine A74 Z Z (A4 Z Z) (A74 Z Z (B3 Z (.pure _ _ _ _) Z (by omega) (show (x::r)[(0:Int).toNat]?=some x from Z)) (A74 Z Z (B6 Z Z) (A74 Z Z (A4 Z Z) (A74 Z Z (D11 Z (.pure _ _ _ _) Z (by (first | omega | (simp only [J78];omega))) (by (first | omega | (simp only [J78];omega)))) (A74 Z Z (A4 Z Z) (A74 Z Z (G7 (B54 ctx 3 (by omega) (by omega)) Z Z) (A74 Z Z (A4 Z Z) (A74 Z Z (G7 (hM) Z Z) (A74 Z Z (A4 Z Z) (A74 Z Z (B1 Z Z) (A74 Z Z (B1 Z Z) (A74 Z Z (B1 Z Z) ?_))))))))))));exact o_nil
 refine k1 (k2 ?_)
 refine C4 (by kernel_rfl) (by kernel_rfl) (A8 (C7 Z Z Z) Z Z (A8 (C7 Z Z Z) Z Z (A8 (G7 (hW) Z Z) Z Z (C53 (B7 TySz.out Z Z Z Z Z Z) Z (A8 (A5 Z Z) Z Z (H9 ?_))))))
 refine k1 (k10 ?_)
 exact B5 (rs:=[I5 c,F5 w]) (L5 rfl rfl rfl rfl rfl rfl rfl) ⟨c,w,rfl,f2⟩
set_option maxHeartbeats 1000000
theorem F09 (raw:List Int) (n ctx:Int) (dn:Bool) (what pos c:Int):FnOk Tryz.prog 7 [T0 raw,E2 n,E2 ctx,D3 dn,E2 what,E2 pos,E2 c] (fun rs=>rs=[D3 true]):=by
 refine FnOk.intro Tryz.func7 (by decide) Z Z Z Z ?_
 refine k2 ?_
 refine A3 (A2 (A5 Z Z) Z (A6 ?_))
 refine k1 (k2 ?_)
 refine A3 (A2 (A4 Z Z) Z (A2 (A4 Z Z) Z (A2 (A4 Z Z) Z (A2 (A4 Z Z) Z (B9 (I72 raw n ctx dn) Z Z Z ?_)))));rintro _ ⟨c0,s,rfl,hwl⟩;refine A2 (A4 Z Z) Z (A2 (B1 Z Z) Z (A2 (B1 Z Z) Z (C2 (G1 15 Z) Z (E3 (B7 TySz.out Z Z Z Z Z Z) (A2 (A5 Z Z) Z (A6 ?_))))))
 have hS:=H63 s what pos c (by omega)
 have h1:=B59 s (by omega)
 have h2:=D67 s (by omega)
 have hg1:=G76 (M5 O4 s).1 (by have:=F65 (s:=s) (by omega);omega)
 unfold A45 at h1 h2
 obtain ⟨c1,e1,hq1⟩:∃c e,M5 O4 s=(c,e):=⟨_,_,rfl⟩
 rw [hq1] at h1 h2 hg1
 refine k1 (k2 ?_)
 refine A3 (A2 (A4 Z Z) Z (A2 (A4 Z Z) Z (A2 (A4 Z Z) Z (A2 (A4 Z Z) Z (B9 (hS) Z Z Z ?_)))));rintro _ ⟨t,rfl,htl⟩;refine A2 (A5 Z Z) Z (A6 ?_)
 have h3:=B59 t (by omega)
 have h4:=D67 t (by omega)
 have hg2:=G76 (M5 O4 t).1 (by have:=F65 (s:=t) (by omega);omega)
 unfold A45 at h3 h4
 obtain ⟨c2,e2,hq2⟩:∃c e,M5 O4 t=(c,e):=⟨_,_,rfl⟩
 rw [hq2] at h3 h4 hg2
 dsimp only at h1 h2 h3 h4 hg1 hg2
 refine k1 (k2 ?_)
 refine A3 (A2 (A4 Z Z) Z (B9 (h1) Z Z Z ?_));rintro _ rfl;refine A2 (A4 Z Z) Z (A2 (B1 Z Z) Z (A2 (B1 Z Z) Z (C2 (G1 18 Z) Z (E3 (B7 TySz.out Z Z Z Z Z Z) (A2 (A5 Z Z) Z (A6 ?_))))))
 refine k1 (k2 ?_)
 refine A3 (A2 (A4 Z Z) Z (B9 (h2) Z Z Z ?_));rintro _ rfl;refine A2 (A4 Z Z) Z (A2 (B1 Z Z) Z (A2 (B1 Z Z) Z (C2 (G1 20 Z) Z (E3 (B7 TySz.out Z Z Z Z Z Z) (A2 (A5 Z Z) Z (A6 ?_))))))
 refine k1 (k2 ?_)
 refine A3 (A2 (A4 Z Z) Z (B9 (h3) Z Z Z ?_));rintro _ rfl;refine A2 (A4 Z Z) Z (A2 (B1 Z Z) Z (A2 (B1 Z Z) Z (C2 (G1 22 Z) Z (E3 (B7 TySz.out Z Z Z Z Z Z) (A2 (A5 Z Z) Z (A6 ?_))))))
 refine k1 (k2 ?_)
 refine A3 (A2 (A4 Z Z) Z (B9 (h4) Z Z Z ?_));rintro _ rfl;refine A2 (A4 Z Z) Z (A2 (B1 Z Z) Z (A2 (B1 Z Z) Z (C2 (G1 24 Z) Z (E3 (B7 TySz.out Z Z Z Z Z Z) (A2 (A5 Z Z) Z (A6 ?_))))))
 refine k1 (k2 ?_)
 refine A3 (A2 (C7 Z Z Z) Z (A2 (C7 Z Z Z) Z (B9 (hg1) Z Z Z ?_)));rintro _ rfl;refine A2 (A4 Z Z) Z (A9 Z Z Z Z (fun hg=>by rw [hg];exact A4 Z Z) ?_);refine A9 Z Z Z Z (fun hg=>by rw [hg];exact A4 Z Z) ?_;refine A9 Z Z Z Z (fun hg=>by rw [hg];exact F1 Z Z) ?_;refine A2 (B4 Z (fun h=>by first | rfl | (rw [h];rfl)) (fun h=>by first | rfl | (rw [h];rfl))) Z ?_;refine A2 (A4 Z Z) Z (A9 Z Z Z Z (fun hg=>by rw [hg];exact C7 Z Z Z) ?_);refine A9 Z Z Z Z (fun hg=>by rw [hg];exact C7 Z Z Z) ?_;refine A9 Z Z Z Z (fun hg=>by have hq:=hg;(try simp at hq);rw [hg];exact G7 (hg2) Z Z) ?_;refine A2 (B4 Z (fun h=>by first | rfl | (rw [h];rfl)) (fun h=>by first | rfl | (rw [h];rfl))) Z ?_;refine A2 (A4 Z Z) Z (A9 Z Z Z Z (fun hg=>by rw [hg];exact A4 Z Z) ?_);refine A9 Z Z Z Z (fun hg=>by rw [hg];exact A4 Z Z) ?_;refine A9 Z Z Z Z (fun hg=>by rw [hg];exact F1 Z Z) ?_;refine A2 (B4 Z (fun h=>by first | rfl | (rw [h];rfl)) (fun h=>by first | rfl | (rw [h];rfl))) Z ?_;refine A2 (A4 Z Z) Z (A9 Z Z Z Z (fun hg=>by have hq:=hg;(try simp at hq);rw [hg];exact G7 (H62) Z Z) ?_);refine A2 (B4 Z (fun h=>by first | rfl | (rw [h];rfl)) (fun h=>by first | rfl | (rw [h];rfl))) Z ?_;refine A2 (A5 Z Z) Z (A6 ?_)
 refine k1 (k10 ?_)
 exact B5 (F8 rfl rfl rfl) (by simp)
end Go.Proofs.YtgejaedjnbjpoaaGreatDoor
