/- Walks of the program's functions. -/
import Derived.Test.YtgejaedjnbjpoaaGreatDoorFg
import Derived.Test.YtgejaedjnbjpoaaGreatDoorFe
import Derived.Test.YtgejaedjnbjpoaaGreatDoorFs
import Derived.Test.YtgejaedjnbjpoaaGreatDoorFf
namespace Go.Proofs.YtgejaedjnbjpoaaGreatDoor
open Go Go.AL
set_option maxRecDepth 100000
abbrev rowV (q:Row):List Value:=[.bool q.Lost,.int .u32 q.Marks,.string ⟨q.Text.toArray⟩]
theorem row_eq (q q':Row):F40 (rowV q) (rowV q')=decide (q=q'):=by
 rw [Bool.eq_iff_iff]
 simp only [F40,eqV,ByteArray.toList_mk,K98,beq_iff_eq,decide_eq_true_eq,Bool.and_true]
 constructor
 ·rintro ⟨h1,h2,h3⟩
  obtain ⟨k,m,t⟩:=q
  obtain ⟨k',m',t'⟩:=q'
  obtain rfl:k=k':=h1
  obtain rfl:m=m':=h2
  obtain rfl:t=t':=h3
  rfl
 ·rintro rfl;exact ⟨rfl,rfl,rfl⟩
theorem K14 (a:List Int) (ha:a.length≤1099511627776):FnOk Tryz.prog 86 [Q9 a,Q9 a] (fun rs=>rs=[E3 true]):=by
 refine FnOk.intro Tryz.func86 (by decide) Z Z Z Z ?_
 refine k2 ?_
 refine A4 (A3 (A6 Z Z) Z (A7 ?_))
 refine k1 (k2 (k2 ?_))
 refine A4 (A3 (A5 Z Z) Z (A3 (F1 Z (.pure _ _ _ _)) Z (A3 (A5 Z Z) Z (A3 (F1 Z (.pure _ _ _ _)) Z (A3 (O6 Z Z) Z (A7 ?_))))))
 refine k1 ?_
 refine B4 rfl (fun ht=>?_) (fun ht=>?_)
 ·exact absurd rfl (A0 ht)
 refine k5 (k1 (k2 (k2 ?_)))
 refine A4 (A3 (A6 Z Z) Z (A7 ?_))
 refine k1 (k3 ?_)
 refine E1 (X:=Nat) (fun i=>([(0,D2 Int 1 G6 a),(1,D2 Int 1 G6 a),(5,C0 i)],[])) (fun i=>i≤a.length) (fun i=>a.length - i) 0 (Nat.zero_le _) (K60 ⟨le1 rfl,le1 rfl,le1 rfl,trivial⟩ trivial) ?_
 intro i hi
 dsimp only at hi ⊢
 refine k2 (k2 ?_)
 refine A4 (A3 (A5 Z Z) Z (A3 (A5 Z Z) Z (A3 (F1 Z (.pure _ _ _ _)) Z (A3 (E6 Z Z) Z (A7 ?_)))))
 refine k1 ?_
 refine B4 rfl (fun ht=>?_) (fun ht=>?_)
 ·have hlt:i < a.length:=by have:=A0 ht;omega
  have hv:=getI hlt
  refine k5 (k1 (k2 (k3 (k2 ?_))))
  refine D4 (by kernel_rfl) (by kernel_rfl) (B1 (A5 Z Z) Z Z (B1 (A5 Z Z) Z Z (B1 (B9 Z (.pure _ _ _ _) Z (by omega) hv) Z Z (B1 (C8 Z Z) Z Z (B1 (A5 Z Z) Z Z (B1 (A5 Z Z) Z Z (B1 (B9 Z (.pure _ _ _ _) Z (by omega) hv) Z Z (B1 (C8 Z Z) Z Z (B1 (O6 Z Z) Z Z (L4 ?_))))))))))
  refine k1 ?_
  refine B4 rfl (fun ht=>?_) (fun ht=>?_)
  ·exact absurd rfl (A0 ht)
  refine k5 (k4 (k1 ?_))
  refine A4 (A3 (A5 Z Z) Z (A3 (C6 Z Z (by omega)) Z (A3 (A6 Z Z) Z (A7 ?_))))
  refine k1 ?_
  exact ⟨i+1,by omega,by omega,K60 ⟨le1 rfl,le1 rfl,le1 rfl,trivial⟩ trivial⟩
 ·refine k6 (k2 ?_)
  refine A4 (A3 (A6 Z Z) Z (A7 ?_))
  refine k1 (k10 ?_)
  exact B8 (rs:=[E3 true]) (I2 rfl rfl rfl) rfl
theorem K15 (a:List Row) (ha:a.length≤1099511627776):FnOk Tryz.prog 87 [pRows a,pRows a] (fun rs=>rs=[E3 true]):=by
 refine FnOk.intro Tryz.func87 (by decide) Z Z Z Z ?_
 refine k2 ?_
 refine A4 (A3 (A6 Z Z) Z (A7 ?_))
 refine k1 (k2 (k2 ?_))
 refine A4 (A3 (A5 Z Z) Z (A3 (F1 Z (.pure _ _ _ _)) Z (A3 (A5 Z Z) Z (A3 (F1 Z (.pure _ _ _ _)) Z (A3 (O6 Z Z) Z (A7 ?_))))))
 refine k1 ?_
 refine B4 rfl (fun ht=>?_) (fun ht=>?_)
 ·exact absurd rfl (A0 ht)
 refine k5 (k1 (k2 (k2 ?_)))
 refine A4 (A3 (A6 Z Z) Z (A7 ?_))
 refine k1 (k3 ?_)
 refine E1 (X:=Nat) (fun i=>([(0,D2 Row 3 rowC a),(1,D2 Row 3 rowC a),(5,C0 i)],[])) (fun i=>i≤a.length) (fun i=>a.length - i) 0 (Nat.zero_le _) (K60 ⟨le1 rfl,le1 rfl,le1 rfl,trivial⟩ trivial) ?_
 intro i hi
 dsimp only at hi ⊢
 refine k2 (k2 ?_)
 refine A4 (A3 (A5 Z Z) Z (A3 (A5 Z Z) Z (A3 (F1 Z (.pure _ _ _ _)) Z (A3 (E6 Z Z) Z (A7 ?_)))))
 refine k1 ?_
 refine B4 rfl (fun ht=>?_) (fun ht=>?_)
 ·have hlt:i < a.length:=by have:=A0 ht;omega
  have hv:a[i]?=some a[i]:=by simp [hlt]
  obtain ⟨r,hr⟩:∃r,r=a[i]:=⟨_,rfl⟩
  rw [←hr] at hv
  refine k5 (k1 (k2 (k3 (k2 ?_))))
  refine D4 (by kernel_rfl) (by kernel_rfl) (B1 (A5 Z Z) Z Z (B1 (A5 Z Z) Z Z (B1 (B9 Z (.pure _ _ _ _) Z (by omega) hv) Z Z (B1 (F4 Z Z) Z Z (B1 (A5 Z Z) Z Z (B1 (A5 Z Z) Z Z (B1 (B9 Z (.pure _ _ _ _) Z (by omega) hv) Z Z (B1 (F4 Z Z) Z Z (B1 (J92 (rowV r) (rowV r) Z Z Z Z ((row_eq r r).trans (decide_eq_true Z))) Z Z (L4 ?_))))))))))
  refine k1 ?_
  refine B4 rfl (fun ht=>?_) (fun ht=>?_)
  ·cases ht
  refine k5 (k4 (k1 ?_))
  refine A4 (A3 (A5 Z Z) Z (A3 (C6 Z Z (by omega)) Z (A3 (A6 Z Z) Z (A7 ?_))))
  refine k1 ?_
  exact ⟨i+1,by omega,by omega,K60 ⟨le1 rfl,le1 rfl,le1 rfl,trivial⟩ trivial⟩
 ·refine k6 (k2 ?_)
  refine A4 (A3 (A6 Z Z) Z (A7 ?_))
  refine k1 (k10 ?_)
  exact B8 (rs:=[E3 true]) (I2 rfl rfl rfl) rfl
theorem K16 (c:Comb) (hz:szC c.Hunks≤1099511627776):FnOk Tryz.prog 38 [N4 c,N4 c] (fun rs=>rs=[E3 true]):=by
 have hzl:=C03 c.Hunks
 refine FnOk.intro Tryz.func38 (by decide) Z Z Z Z ?_
 refine k2 ?_
 refine A4 (C7 (R1 2 Z Z Z) Z (C7 (R1 3 Z Z Z) Z (A3 (A6 Z Z) Z (A7 ?_))))
 refine k1 (k2 (k2 ?_))
 refine A4 (A3 (A8 Z) Z (A3 (A9 Z Z Z) Z (A3 (A8 Z) Z (A3 (A9 Z Z Z) Z (A3 (A89 Z Z) Z (A3 (A5 Z Z) Z (B0 Z Z Z Z (fun hg=>by rw [hg];exact A8 Z) ?_)))))));refine B0 Z Z Z Z (fun hg=>by rw [hg];exact A9 Z Z Z) ?_;refine B0 Z Z Z Z (fun hg=>by rw [hg];exact A8 Z) ?_;refine B0 Z Z Z Z (fun hg=>by rw [hg];exact A9 Z Z Z) ?_;refine B0 Z Z Z Z (fun hg=>by rw [hg];exact n_neq_b Z Z TyBool.out) ?_;refine A3 (B5 Z (fun h=>by first | rfl | (rw [h];rfl)) (fun h=>by first | rfl | (rw [h];rfl))) Z ?_;refine A3 (A5 Z Z) Z (B0 Z Z Z Z (fun hg=>by rw [hg];exact A8 Z) ?_);refine B0 Z Z Z Z (fun hg=>by rw [hg];exact A9 Z Z Z) ?_;refine B0 Z Z Z Z (fun hg=>by rw [hg];exact A8 Z) ?_;refine B0 Z Z Z Z (fun hg=>by rw [hg];exact A9 Z Z Z) ?_;refine B0 Z Z Z Z (fun hg=>by rw [hg];exact O6 Z Z) ?_;refine A3 (B5 Z (fun h=>by first | rfl | (rw [h];rfl)) (fun h=>by first | rfl | (rw [h];rfl))) Z ?_;refine A3 (A5 Z Z) Z (B0 Z Z Z Z (fun hg=>by rw [hg];exact A8 Z) ?_);refine B0 Z Z Z Z (fun hg=>by rw [hg];exact A9 Z Z Z) ?_;refine B0 Z Z Z Z (fun hg=>by rw [hg];exact F1 Z (.pure _ _ _ _)) ?_;refine B0 Z Z Z Z (fun hg=>by rw [hg];exact A8 Z) ?_;refine B0 Z Z Z Z (fun hg=>by rw [hg];exact A9 Z Z Z) ?_;refine B0 Z Z Z Z (fun hg=>by rw [hg];exact F1 Z (.pure _ _ _ _)) ?_;refine B0 Z Z Z Z (fun hg=>by rw [hg];exact O6 Z Z) ?_;refine A3 (B5 Z (fun h=>by first | rfl | (rw [h];rfl)) (fun h=>by first | rfl | (rw [h];rfl))) Z ?_;refine A7 ?_
 refine k1 ?_
 refine B4 rfl (fun ht=>?_) (fun ht=>?_)
 ·exfalso;revert ht;simp
 refine K4 [(2,.s (.one (.ref 2 0))),(3,.s (.one (.ref 3 0)))] [(2,E07 c),(3,E07 c)] (K60 ⟨le1 rfl,le1 rfl,trivial⟩ ⟨rfl,rfl,trivial⟩) ?_
 refine k5 (k1 (k2 (k2 ?_)))
 refine A4 (A3 (A6 Z Z) Z (A7 ?_))
 refine k1 (k3 ?_)
 refine E1 (X:=Nat) (fun k=>([(2,.s (.one (.ref 2 0))),(3,.s (.one (.ref 3 0))),(5,C0 k)],[(2,E07 c),(3,E07 c)])) (fun k=>k≤c.Hunks.length) (fun k=>c.Hunks.length - k) 0 (Nat.zero_le _) (K60 ⟨le1 rfl,le1 rfl,le1 rfl,trivial⟩ ⟨rfl,rfl,trivial⟩) ?_
 intro k hk
 dsimp only at hk ⊢
 refine k2 (k2 ?_)
 refine A4 (A3 (A5 Z Z) Z (A3 (A8 Z) Z (A3 (A9 Z Z Z) Z (A3 (F1 Z (.pure _ _ _ _)) Z (A3 (E6 Z Z) Z (A7 ?_))))))
 refine k1 ?_
 refine B4 rfl (fun ht=>?_) (fun ht=>?_)
 ·have hlt:k < c.Hunks.length:=by have:=A0 ht;omega
  have hv:c.Hunks[k]?=some c.Hunks[k]:=by simp [hlt]
  have hzm:=C02 (L15 hlt)
  obtain ⟨h,hx⟩:∃x,x=c.Hunks[k]:=⟨_,rfl⟩
  rw [←hx] at hv hzm
  have hz1:=j6 h.Rows
  unfold D13 at hzm
  refine k5 (k1 (k2 (k3 (k2 ?_))))
  refine D4 (by kernel_rfl) (by kernel_rfl) (B1 (A8 Z) Z Z (B1 (A9 Z Z Z) Z Z (B1 (A5 Z Z) Z Z (B1 (B9 Z (.pure _ _ _ _) Z (by omega) hv) Z Z (B1 (Z2 Z) Z Z (B1 (C8 Z Z) Z Z (B1 (A8 Z) Z Z (B1 (A9 Z Z Z) Z Z (B1 (A5 Z Z) Z Z (B1 (B9 Z (.pure _ _ _ _) Z (by omega) hv) Z Z (B1 (Z2 Z) Z Z (B1 (C8 Z Z) Z Z (B1 (K9 (K14 h.At (by omega)) Z Z) Z Z (B1 (F0 Z) Z Z (B1 (A5 Z Z) Z Z (D7 Z Z (fun hg=>by rw [hg];exact A8 Z) Z Z ?_))))))))))))))));refine D7 Z Z (fun hg=>by rw [hg];exact A9 Z Z Z) Z Z ?_;refine D7 Z Z (fun hg=>by rw [hg];exact A5 Z Z) Z Z ?_;refine D7 Z Z (fun hg=>by have hq:=hg;(try simp at hq);rw [hg];exact B9 Z (.pure _ _ _ _) Z (by omega) hv) Z Z ?_;refine D7 Z Z (fun hg=>by rw [hg];exact Z2 Z) Z Z ?_;refine D7 Z Z (fun hg=>by rw [hg];exact C8 Z Z) Z Z ?_;refine D7 Z Z (fun hg=>by rw [hg];exact A8 Z) Z Z ?_;refine D7 Z Z (fun hg=>by rw [hg];exact A9 Z Z Z) Z Z ?_;refine D7 Z Z (fun hg=>by rw [hg];exact A5 Z Z) Z Z ?_;refine D7 Z Z (fun hg=>by have hq:=hg;(try simp at hq);rw [hg];exact B9 Z (.pure _ _ _ _) Z (by omega) hv) Z Z ?_;refine D7 Z Z (fun hg=>by rw [hg];exact Z2 Z) Z Z ?_;refine D7 Z Z (fun hg=>by rw [hg];exact C8 Z Z) Z Z ?_;refine D7 Z Z (fun hg=>by have hq:=hg;(try simp at hq);rw [hg];exact K9 (K15 h.Rows (by omega)) Z Z) Z Z ?_;refine D7 Z Z (fun hg=>by rw [hg];exact F0 Z) Z Z ?_;refine B1 (B5 Z (fun h=>by first | rfl | (rw [h];rfl)) (fun h=>by first | rfl | (rw [h];rfl))) Z Z ?_;refine L4 ?_
  refine k1 ?_
  refine B4 rfl (fun ht=>?_) (fun ht=>?_)
  ·cases ht
  refine k5 (k4 (k1 ?_))
  refine A4 (A3 (A5 Z Z) Z (A3 (C6 Z Z (by omega)) Z (A3 (A6 Z Z) Z (A7 ?_))))
  refine k1 ?_
  exact ⟨k+1,by omega,by omega,K60 ⟨le1 rfl,le1 rfl,le1 rfl,trivial⟩ ⟨rfl,rfl,trivial⟩⟩
 ·refine k6 (k2 ?_)
  refine A4 (A3 (A6 Z Z) Z (A7 ?_))
  refine k1 (k10 ?_)
  exact B8 (rs:=[E3 true]) (I2 rfl rfl rfl) rfl
end Go.Proofs.YtgejaedjnbjpoaaGreatDoor
namespace Go.Proofs.YtgejaedjnbjpoaaGreatDoor
open Go Go.AL
set_option maxRecDepth 100000
theorem F97 {s:Str} {i:Nat} (h:t7 (s.drop i)=none):G56 s i=[F2 0,F2 0,F2 0,E3 false]:=by unfold G56;rw [h]
theorem F98 {s:Str} {i k:Nat} {a n:Int} (h:t7 (s.drop i)=some (a,n,k)):G56 s i=[F2 a,F2 n,F2 ((i+k:Nat):Int),E3 true]:=by unfold G56;rw [h]
theorem E18 (a b:List CHunk):szC (a++b)=szC a+szC b:=by simp [szC]
theorem E19 (h:CHunk):szC [h]=D13 h:=by simp [szC]
theorem lastC {α:Type} {l:List α} {x:α} (h:l.getLast?=some x):l=l.dropLast++[x]:=by
 obtain ⟨ys,hy⟩:=List.getLast?_eq_some_iff.1 h
 rw [hy,List.dropLast_concat]
theorem H32 {hs:List CHunk} {h:CHunk} (hl:hs.getLast?=some h):szC hs=szC hs.dropLast+D13 h:=by
 conv=>lhs;rw [lastC hl,E18,E19]
theorem J39 (t:Str):(B75 t).length≤t.length:=by
 unfold B75;split
 ·rw [List.length_dropLast];omega
 ·omega
theorem B93 (h:CHunk):D13 h=2048+h.At.length+(h.Rows.map Q6).sum:=rfl
def CInv (n:Nat) (hs:List CHunk):Prop:=∀h∈hs,h.At.length=n+1∧K3 h.Rows
theorem CInv.app {n:Nat} {hs:List CHunk} {h:CHunk} (hi:CInv n hs) (hh:h.At.length=n+1∧K3 h.Rows):CInv n (hs++[h]):=by
 intro x hx
 rcases List.mem_append.1 hx with hx | hx
 ·exact hi x hx
 ·simp only [L22,L24,or_false] at hx
  rw [hx];exact hh
theorem CInv.init {n:Nat} {hs:List CHunk} (hi:CInv n hs):CInv n hs.dropLast:=fun x hx=>hi x ((List.dropLast_sublist _).subset hx)
theorem H33 {n:Nat} {l:Str} {a:List Int} (h:A40 n l=some a):a.length=n+1∧2*(n+2)≤l.length:=by
 unfold A40 at h
 split at h
 ·rename_i h1
  have hp:(D12 n).length=n+2:=by simp [D12,y1]
  have hs:(C56 n).length=n+2:=by simp [C56,y1]
  have l1:=congrArg List.length h1.1
  rw [L08,hp] at l1
  have l2:=h1.2
  unfold R4 at l2
  have l3:=(A0 l2).1
  rw [hs,L05] at l3
  split at h
  ·rename_i b hb
   split at h
   ·rename_i hbl
    cases h
    exact ⟨hbl,by omega⟩
   ·cases h
  ·cases h
 ·cases h
def A49 (l:Str):Nat:=420*(l.length+1)
theorem H34 {n:Nat} (hn:1≤n∧n≤32) {hs hs':List CHunk} {l:Str} (h:U8 n hs l=some hs') (hi:CInv n hs):szC hs'≤szC hs+A49 l∧CInv n hs':=by
 unfold U8 at h
 unfold A49
 split at h
 ·cases hp:A40 n l with
  | none=>rw [hp] at h;cases h
  | some a =>
   rw [hp] at h
   have h:hs++[⟨a,[]⟩]=hs':=Option.some.inj h
   obtain ⟨f1,f2⟩:=H33 hp
   rw [←h]
   refine ⟨?_,hi.app ⟨f1,fun r hr=>by cases hr⟩⟩
   rw [E18,E19,B93]
   dsimp only
   rw [f1,L36,L52]
   omega
 ·split at h
  ·cases h
  ·split at h
   ·unfold F10 at h
    cases hl:hs.getLast? with
    | none=>rw [hl] at h;cases h
    | some g =>
     rw [hl] at h
     dsimp only at h
     have hg:=hi g (List.mem_of_getLast? hl)
     cases hx:g.Rows.getLast? with
     | none=>rw [hx] at h;cases h
     | some r =>
      rw [hx] at h
      have h:hs.dropLast++[⟨g.At,g.Rows.dropLast++[⟨r.Lost,r.Marks,B75 r.Text⟩]⟩]=hs':=Option.some.inj h
      have ht:=J39 r.Text
      have hrr:=lastC hx
      have hsum:(g.Rows.map Q6).sum=(g.Rows.dropLast.map Q6).sum+Q6 r:=by
       conv=>lhs;rw [hrr,L14,L39]
       simp
      rw [←h]
      refine ⟨?_,hi.init.app ⟨hg.1,fun x hx2=>?_⟩⟩
      ·rw [E18,E19,B93,H32 hl,B93,hsum]
       simp only [L14,L39,L04,L36,L29,L52,Q6]
       omega
      ·rcases List.mem_append.1 hx2 with hx2 | hx2
       ·exact hg.2 x ((List.dropLast_sublist _).subset hx2)
       ·simp only [L22,L24,or_false] at hx2
        rw [hx2];exact hg.2 r (List.mem_of_getLast? hx)
   ·cases hr:AL.rowAt (l++[10]) n with
    | none=>rw [hr] at h;cases h
    | some r =>
     rw [hr] at h
     dsimp only at h
     unfold G86 at h
     cases hl:hs.getLast? with
     | none=>rw [hl] at h;cases h
     | some g =>
      rw [hl] at h
      have h:hs.dropLast++[⟨g.At,g.Rows++[r]⟩]=hs':=Option.some.inj h
      have hg:=hi g (List.mem_of_getLast? hl)
      have hrI:A44 (l++[10]) (n:Int)=some r:=by unfold A44;rw [if_neg (by omega),L01];exact hr
      obtain ⟨_,t1,t2,_⟩:=J77 hrI
      have t3:r.Text.length≤l.length+1:=by rw [t1,L05,K96];simp
      rw [←h]
      refine ⟨?_,hi.init.app ⟨hg.1,fun x hx2=>?_⟩⟩
      ·rw [E18,E19,B93,H32 hl,B93]
       simp only [L14,L39,L04,L36,L29,L52,Q6]
       omega
      ·rcases List.mem_append.1 hx2 with hx2 | hx2
       ·exact hg.2 x hx2
       ·simp only [L22,L24,or_false] at hx2
        rw [hx2];exact t2
theorem H35 {n:Nat} (hn:1≤n∧n≤32):∀(ls:List Str) (hs hs':List CHunk),Z0 n hs ls=some hs'→CInv n hs→szC hs'≤szC hs+(ls.map A49).sum∧CInv n hs'
 | [],hs,hs',h,hi=>by cases h;exact ⟨by simp,hi⟩
 | x::r,hs,hs',h,hi=>by
  rw [Z0] at h
  cases hx:U8 n hs x with
  | none=>rw [hx] at h;cases h
  | some g =>
   rw [hx] at h
   obtain ⟨a1,a2⟩:=H34 hn hx hi
   obtain ⟨b1,b2⟩:=H35 hn r g hs' h a2
   refine ⟨?_,b2⟩
   rw [L04,L29];omega
theorem F99 {q:Bool} {a b:Str} {d:Bool} {p:Str} {n:Int} (h:s6 q a b=some (d,p,n)):1≤n∧n≤32:=by
 unfold s6 at h
 split at h
 ·cases h
 ·split at h
  ·split at h
   ·split at h
    ·rename_i h2
     cases h;omega
    ·cases h
   ·cases h
  ·cases h
theorem J40 {l:List Str} {c:Comb} (h:Z1 l=some c):(1≤c.Parents∧c.Parents≤32)∧szC c.Hunks≤(l.map A49).sum∧CInv c.Parents.toNat c.Hunks:=by
 unfold Z1 at h
 split at h
 ·rename_i a b r
  split at h
  ·rename_i d p n ht
   have hn:=F99 ht
   split at h
   ·rename_i hs hf
    cases h
    obtain ⟨f1,f2⟩:=H35 (n:=n.toNat) (by omega) r [] hs hf (fun x hx=>by cases hx)
    refine ⟨hn,?_,f2⟩
    have e0:szC ([]:List CHunk)=0:=rfl
    rw [e0] at f1
    simp only [L04,L29]
    omega
   ·cases h
  ·cases h
 ·cases h
def wgTo (l:List Str) (i:Nat):Nat:=((l.take i).map A49).sum
theorem J41 {l:List Str} {i:Nat} (h:i < l.length):wgTo l (i+1)=wgTo l i+A49 l[i]:=by
 unfold wgTo
 rw [L06 h,L14,L39]
 simp only [L04,L36,L29,L52]
 omega
end Go.Proofs.YtgejaedjnbjpoaaGreatDoor
namespace Go.Proofs.YtgejaedjnbjpoaaGreatDoor
open Go Go.AL
set_option maxRecDepth 100000
theorem I86 (s:Str) (i:Nat):∃(w:Str) (e:Int) (b:Bool),D76 s i=[G7 w,F2 e,E3 b]∧match Y7 (s.drop i) with
  | some q=>b=true∧w=q.1∧e=((i+q.2:Nat):Int)
  | none=>b=false:=by
 cases h:Y7 (s.drop i) with
 | none=>exact ⟨_,_,_,I19 h,rfl⟩
 | some q=>obtain ⟨w,k⟩:=q;exact ⟨_,_,_,I20 h,rfl,rfl,rfl⟩
theorem num_ex (s:Str) (i:Nat):∃(n e:Int) (b:Bool),G55 s i=[F2 n,F2 e,E3 b]∧match a8 (s.drop i) with
  | some q=>b=true∧n=(q.1:Int)∧e=((i+q.2:Nat):Int)
  | none=>b=false:=by
 cases h:a8 (s.drop i) with
 | none=>exact ⟨_,_,_,D38 h,rfl⟩
 | some q=>obtain ⟨n,k⟩:=q;exact ⟨_,_,_,D37 h,rfl,rfl,rfl⟩
abbrev T7:Ob:=.box [.p (.v (.string ⟨#[]⟩)),.p (.v (.bool false)),.p (.v (.int .i64 0)),.p (.v (.slice none 0 0))]
set_option maxHeartbeats 4000000
theorem cut_ex (s p:Str):∃(c:Str) (b:Bool),F51 s p=[G7 c,E3 b]∧((b=true∧s.take p.length=p∧c=s.drop p.length)∨(b=false∧s.take p.length≠p∧c=s)):=by
 unfold F51
 by_cases h:s.take p.length=p
 ·rw [if_pos h];exact ⟨_,_,rfl,.inl ⟨rfl,h,rfl⟩⟩
 ·rw [if_neg h];exact ⟨_,_,rfl,.inr ⟨rfl,h,rfl⟩⟩
abbrev cpBox (w:Str) (d:Bool) (n:Int):Ob:=.box [.p (.v (.string ⟨w.toArray⟩)),.p (.v (.bool d)),.p (.v (.int .i64 n)),.p (.v (.slice none 0 0))]
theorem H36 {a b c x w:Str} {d okc okw okn:Bool} {e n en:Int} (hk:A09 a=some (d,x)) (hc:(okc=true∧b.take parS.length=parS∧c=b.drop parS.length)∨(okc=false∧b.take parS.length≠parS∧c=b))
  (hw:match Y7 (x.drop 0) with | some q=>okw=true∧w=q.1∧e=((0+q.2:Nat):Int) | none=>okw=false)
  (hn:match a8 (c.drop 0) with | some q=>okn=true∧n=(q.1:Int)∧en=((0+q.2:Nat):Int) | none=>okn=false) :
  s6 true a b=if okc=true∧okw=true∧e=x.length∧okn=true∧en=c.length∧1≤n∧n≤32 then some (d,w,n) else none:=by
 unfold s6
 rw [hk]
 dsimp only
 rw [List.drop_zero] at hw hn
 have h8:parS.length=8:=rfl
 rcases hc with ⟨h1,h2,h3⟩ | ⟨h1,h2,_⟩
 ·rw [h8] at h2 h3
  rw [if_pos h2,←h3]
  cases g1:Y7 x with
  | none=>rw [g1] at hw;have hw:okw=false:=hw;rw [if_neg (by simp [hw])]
  | some q =>
   obtain ⟨w',k'⟩:=q
   rw [g1] at hw
   obtain ⟨rfl,rfl,rfl⟩:=hw
   cases g2:a8 c with
   | none=>rw [g2] at hn;have hn:okn=false:=hn;rw [if_neg (by simp [hn])]
   | some q2 =>
    obtain ⟨m',k2⟩:=q2
    rw [g2] at hn
    obtain ⟨rfl,rfl,rfl⟩:=hn
    dsimp only
    by_cases hg:(true=true→k'=x.length∧k2=c.length)∧1≤m'∧m'≤32
    ·obtain ⟨q1,q2⟩:=hg.1 rfl
     rw [if_pos hg,if_pos ⟨h1,rfl,by omega,rfl,by omega,by omega,by omega⟩]
    ·rw [if_neg hg,if_neg]
     rintro ⟨_,_,p1,_,p2,p3,p4⟩
     exact hg ⟨fun _=>⟨by omega,by omega⟩,by omega,by omega⟩
 ·rw [h8] at h2
  rw [if_neg h2,if_neg (by simp [h1])]
set_option maxHeartbeats 1000000
theorem I29 {gf:Fr} (a b:Str) (ha:a.length≤4194304) (hb:b.length≤4194304) :
  AL.Met Tryz.prog 158 [.one (.ref 730 0),.one (.p (.v (.string ⟨a.toArray⟩))),.one (.p (.v (.string ⟨b.toArray⟩)))] gf [(730,T7),(2,T7)] []
   (fun rs ob'=>∃(w:Str) (d:Bool) (n:Int) (ok:Bool),rs=[tBo ok]∧ob'=[(730,cpBox w d n),(2,T7)]∧match s6 true a b with
    | some (d',p,m)=>ok=true∧d=d'∧w=p∧n=m
    | none=>ok=false):=by
 have hc1:=p5 a ccS
 have hc2:=p5 a combS
 have hc3:=p5 b parS
 unfold F51 at hc1 hc2
 obtain ⟨c,okc,hx,hcc⟩:=cut_ex b parS
 rw [hx] at hc3
 have hcl:c.length≤4194304:=by
  rcases hcc with ⟨_,_,h⟩ | ⟨_,_,h⟩
  ·rw [h,L05];omega
  ·rw [h];exact hb
 have hNb:=B02 c 0 (Nat.zero_le _) (by omega)
 obtain ⟨n,en,okn,hn1,hn2⟩:=num_ex c 0
 rw [hn1] at hNb
 by_cases h1:a.take ccS.length=ccS
 ·rw [if_pos h1] at hc1
  have hk:A09 a=some (true,a.drop ccS.length):=by
   have h1:a.take 10=ccS:=h1
   unfold A09;rw [if_pos h1];rfl
  obtain ⟨x,hxx⟩:∃x,x=a.drop ccS.length:=⟨_,rfl⟩
  have hxl:x.length≤4194304:=by rw [hxx,L05];omega
  rw [←hxx] at hc1 hk
  have hUq:=D77 x 0 (Nat.zero_le _) (by omega)
  obtain ⟨w,e,okw,hw1,hw2⟩:=I86 x 0
  rw [hw1] at hUq
  have hT:=H36 hk hcc hw2 hn2
  refine AL.Met.intro Tryz.func158 (by decide) Z Z Z ?_
  refine k2 ?_
  refine A4 (A3 (A6 Z Z) Z (A7 ?_))
  refine k1 (k2 ?_)
  refine A4 (A3 (A5 Z Z) Z (C1 (hc1) Z Z Z ?_));rintro _ rfl;refine A3 (A5 Z Z) Z (A3 (B3 Z Z) Z (A3 (B3 Z Z) Z (A3 (A6 Z Z) Z (A3 (A6 Z Z) Z (A7 ?_)))))
  refine k1 (k2 (k2 ?_))
  refine A4 (A3 (A5 Z Z) Z (A3 (F0 Z) Z (A7 ?_)))
  refine k1 ?_
  refine B4 rfl (fun ht=>?_) (fun ht=>?_)
  ·cases ht
  refine k5 (k1 (k2 ?_))
  refine A4 (A3 (A5 Z Z) Z (C1 (hc3) Z Z Z ?_));rintro _ rfl;refine A3 (A5 Z Z) Z (A3 (B3 Z Z) Z (A3 (B3 Z Z) Z (A3 (A6 Z Z) Z (A3 (A6 Z Z) Z (A7 ?_)))))
  refine k1 (k2 ?_)
  refine A4 (A3 (A5 Z Z) Z (C1 (hUq) Z Z Z ?_));rintro _ rfl;refine A3 (A5 Z Z) Z (A3 (B3 Z Z) Z (A3 (B3 Z Z) Z (A3 (B3 Z Z) Z (A3 (A6 Z Z) Z (A3 (A6 Z Z) Z (A3 (A6 Z Z) Z (A7 ?_)))))))
  refine k1 (k2 ?_)
  refine A4 (A3 (A5 Z Z) Z (C1 (hNb) Z Z Z ?_));rintro _ rfl;refine A3 (A5 Z Z) Z (A3 (B3 Z Z) Z (A3 (B3 Z Z) Z (A3 (B3 Z Z) Z (A3 (A6 Z Z) Z (A3 (A6 Z Z) Z (A3 (A6 Z Z) Z (A7 ?_)))))))
  refine k1 (k2 ?_)
  refine A4 (A3 (A5 Z Z) Z (A3 (A5 Z Z) Z (A3 (A5 Z Z) Z (A3 (A5 Z Z) Z (A3 (G4 Z) Z (A3 (B2 Z) Z (A3 (A8 Z) Z (E5 (B7 TySz.out Z Z Z Z Z Z) (A7 ?_)))))))))
  refine k1 (k2 ?_)
  refine A4 (A3 (A5 Z Z) Z (A3 (A5 Z Z) Z (B0 Z Z Z Z (fun hg=>by rw [hg];exact A5 Z Z) ?_)));refine A3 (B5 Z (fun h=>by first | rfl | (rw [h];rfl)) (fun h=>by first | rfl | (rw [h];rfl))) Z ?_;refine A3 (A5 Z Z) Z (B0 Z Z Z Z (fun hg=>by rw [hg];exact A5 Z Z) ?_);refine B0 Z Z Z Z (fun hg=>by rw [hg];exact A5 Z Z) ?_;refine B0 Z Z Z Z (fun hg=>by rw [hg];exact E7 Z) ?_;refine B0 Z Z Z Z (fun hg=>by rw [hg];exact I1 Z Z) ?_;refine A3 (B5 Z (fun h=>by first | rfl | (rw [h];rfl)) (fun h=>by first | rfl | (rw [h];rfl))) Z ?_;refine A3 (A5 Z Z) Z (B0 Z Z Z Z (fun hg=>by rw [hg];exact A5 Z Z) ?_);refine A3 (B5 Z (fun h=>by first | rfl | (rw [h];rfl)) (fun h=>by first | rfl | (rw [h];rfl))) Z ?_;refine A3 (A5 Z Z) Z (B0 Z Z Z Z (fun hg=>by rw [hg];exact A5 Z Z) ?_);refine B0 Z Z Z Z (fun hg=>by rw [hg];exact A5 Z Z) ?_;refine B0 Z Z Z Z (fun hg=>by rw [hg];exact E7 Z) ?_;refine B0 Z Z Z Z (fun hg=>by rw [hg];exact I1 Z Z) ?_;refine A3 (B5 Z (fun h=>by first | rfl | (rw [h];rfl)) (fun h=>by first | rfl | (rw [h];rfl))) Z ?_;refine A3 (A5 Z Z) Z (B0 Z Z Z Z (fun hg=>by rw [hg];exact A5 Z Z) ?_);refine B0 Z Z Z Z (fun hg=>by rw [hg];exact A12 Z Z) ?_;refine A3 (B5 Z (fun h=>by first | rfl | (rw [h];rfl)) (fun h=>by first | rfl | (rw [h];rfl))) Z ?_;refine A3 (A5 Z Z) Z (B0 Z Z Z Z (fun hg=>by rw [hg];exact A5 Z Z) ?_);refine B0 Z Z Z Z (fun hg=>by rw [hg];exact B27 Z Z) ?_;refine A3 (B5 Z (fun h=>by first | rfl | (rw [h];rfl)) (fun h=>by first | rfl | (rw [h];rfl))) Z ?_;refine A3 (A6 Z Z) Z (A7 ?_)
  refine k1 (k10 ?_)
  refine G8 (R6 rfl rfl) (by repeat (first | exact C5 | refine tail_cons rfl ?_ | refine D3 _ ?_)) (ObIn.spec (ob':=[(730,cpBox w _ n),(2,T7)]) ⟨rfl,rfl,trivial⟩) ⟨w,_,n,_,rfl,rfl,?_⟩
  rw [hT]
  by_cases hg:okc=true∧okw=true∧e=x.length∧okn=true∧en=c.length∧1≤n∧n≤32
  ·rw [if_pos hg]
   obtain ⟨g1,g2,g3,g4,g5,g6,g7⟩:=hg
   exact ⟨by simp [g1,g2,g3,g4,g5,g6,g7],rfl,rfl,rfl⟩
  ·rw [if_neg hg]
   cases okc<;>cases okw<;>cases okn<;>first | rfl | (simp;done) | (simp at hg ⊢;exact hg) | (simp at hg ⊢;intros;omega)
 rw [if_neg h1] at hc1
 by_cases h2:a.take combS.length=combS
 ·rw [if_pos h2] at hc2
  have hk:A09 a=some (false,a.drop combS.length):=by
   have h1:¬a.take 10=ccS:=h1
   have h2:a.take 16=combS:=h2
   unfold A09;rw [if_neg h1,if_pos h2];rfl
  obtain ⟨x,hxx⟩:∃x,x=a.drop combS.length:=⟨_,rfl⟩
  have hxl:x.length≤4194304:=by rw [hxx,L05];omega
  rw [←hxx] at hc2 hk
  have hUq:=D77 x 0 (Nat.zero_le _) (by omega)
  obtain ⟨w,e,okw,hw1,hw2⟩:=I86 x 0
  rw [hw1] at hUq
  have hT:=H36 hk hcc hw2 hn2
  refine AL.Met.intro Tryz.func158 (by decide) Z Z Z ?_
  refine k2 ?_
  refine A4 (A3 (A6 Z Z) Z (A7 ?_))
  refine k1 (k2 ?_)
  refine A4 (A3 (A5 Z Z) Z (C1 (hc1) Z Z Z ?_));rintro _ rfl;refine A3 (A5 Z Z) Z (A3 (B3 Z Z) Z (A3 (B3 Z Z) Z (A3 (A6 Z Z) Z (A3 (A6 Z Z) Z (A7 ?_)))))
  refine k1 (k2 (k2 ?_))
  refine A4 (A3 (A5 Z Z) Z (A3 (F0 Z) Z (A7 ?_)))
  refine k1 ?_
  refine B4 rfl (fun ht=>?_) (fun ht=>?_)
  rotate_left
  ·cases ht
  refine k2 ?_
  refine A4 (A3 (A6 Z Z) Z (A7 ?_))
  refine k1 (k2 ?_)
  refine A4 (A3 (A5 Z Z) Z (C1 (hc2) Z Z Z ?_));rintro _ rfl;refine A3 (A5 Z Z) Z (A3 (B3 Z Z) Z (A3 (B3 Z Z) Z (A3 (A6 Z Z) Z (A3 (A6 Z Z) Z (A7 ?_)))))
  refine k1 (k2 ?_)
  refine A4 (A3 (A5 Z Z) Z (A3 (F0 Z) Z (A7 ?_)))
  refine k1 ?_
  refine B4 rfl (fun ht=>?_) (fun ht=>?_)
  ·cases ht
  refine k5 (k1 (k2 ?_))
  refine A4 (A3 (A5 Z Z) Z (C1 (hc3) Z Z Z ?_));rintro _ rfl;refine A3 (A5 Z Z) Z (A3 (B3 Z Z) Z (A3 (B3 Z Z) Z (A3 (A6 Z Z) Z (A3 (A6 Z Z) Z (A7 ?_)))))
  refine k1 (k2 ?_)
  refine A4 (A3 (A5 Z Z) Z (C1 (hUq) Z Z Z ?_));rintro _ rfl;refine A3 (A5 Z Z) Z (A3 (B3 Z Z) Z (A3 (B3 Z Z) Z (A3 (B3 Z Z) Z (A3 (A6 Z Z) Z (A3 (A6 Z Z) Z (A3 (A6 Z Z) Z (A7 ?_)))))))
  refine k1 (k2 ?_)
  refine A4 (A3 (A5 Z Z) Z (C1 (hNb) Z Z Z ?_));rintro _ rfl;refine A3 (A5 Z Z) Z (A3 (B3 Z Z) Z (A3 (B3 Z Z) Z (A3 (B3 Z Z) Z (A3 (A6 Z Z) Z (A3 (A6 Z Z) Z (A3 (A6 Z Z) Z (A7 ?_)))))))
  refine k1 (k2 ?_)
  refine A4 (A3 (A5 Z Z) Z (A3 (A5 Z Z) Z (A3 (A5 Z Z) Z (A3 (A5 Z Z) Z (A3 (G4 Z) Z (A3 (B2 Z) Z (A3 (A8 Z) Z (E5 (B7 TySz.out Z Z Z Z Z Z) (A7 ?_)))))))))
  refine k1 (k2 ?_)
  refine A4 (A3 (A5 Z Z) Z (A3 (A5 Z Z) Z (B0 Z Z Z Z (fun hg=>by rw [hg];exact A5 Z Z) ?_)));refine A3 (B5 Z (fun h=>by first | rfl | (rw [h];rfl)) (fun h=>by first | rfl | (rw [h];rfl))) Z ?_;refine A3 (A5 Z Z) Z (B0 Z Z Z Z (fun hg=>by rw [hg];exact A5 Z Z) ?_);refine B0 Z Z Z Z (fun hg=>by rw [hg];exact A5 Z Z) ?_;refine B0 Z Z Z Z (fun hg=>by rw [hg];exact E7 Z) ?_;refine B0 Z Z Z Z (fun hg=>by rw [hg];exact I1 Z Z) ?_;refine A3 (B5 Z (fun h=>by first | rfl | (rw [h];rfl)) (fun h=>by first | rfl | (rw [h];rfl))) Z ?_;refine A3 (A5 Z Z) Z (B0 Z Z Z Z (fun hg=>by rw [hg];exact A5 Z Z) ?_);refine A3 (B5 Z (fun h=>by first | rfl | (rw [h];rfl)) (fun h=>by first | rfl | (rw [h];rfl))) Z ?_;refine A3 (A5 Z Z) Z (B0 Z Z Z Z (fun hg=>by rw [hg];exact A5 Z Z) ?_);refine B0 Z Z Z Z (fun hg=>by rw [hg];exact A5 Z Z) ?_;refine B0 Z Z Z Z (fun hg=>by rw [hg];exact E7 Z) ?_;refine B0 Z Z Z Z (fun hg=>by rw [hg];exact I1 Z Z) ?_;refine A3 (B5 Z (fun h=>by first | rfl | (rw [h];rfl)) (fun h=>by first | rfl | (rw [h];rfl))) Z ?_;refine A3 (A5 Z Z) Z (B0 Z Z Z Z (fun hg=>by rw [hg];exact A5 Z Z) ?_);refine B0 Z Z Z Z (fun hg=>by rw [hg];exact A12 Z Z) ?_;refine A3 (B5 Z (fun h=>by first | rfl | (rw [h];rfl)) (fun h=>by first | rfl | (rw [h];rfl))) Z ?_;refine A3 (A5 Z Z) Z (B0 Z Z Z Z (fun hg=>by rw [hg];exact A5 Z Z) ?_);refine B0 Z Z Z Z (fun hg=>by rw [hg];exact B27 Z Z) ?_;refine A3 (B5 Z (fun h=>by first | rfl | (rw [h];rfl)) (fun h=>by first | rfl | (rw [h];rfl))) Z ?_;refine A3 (A6 Z Z) Z (A7 ?_)
  refine k1 (k10 ?_)
  refine G8 (R6 rfl rfl) (by repeat (first | exact C5 | refine tail_cons rfl ?_ | refine D3 _ ?_)) (ObIn.spec (ob':=[(730,cpBox w _ n),(2,T7)]) ⟨rfl,rfl,trivial⟩) ⟨w,_,n,_,rfl,rfl,?_⟩
  rw [hT]
  by_cases hg:okc=true∧okw=true∧e=x.length∧okn=true∧en=c.length∧1≤n∧n≤32
  ·rw [if_pos hg]
   obtain ⟨g1,g2,g3,g4,g5,g6,g7⟩:=hg
   exact ⟨by simp [g1,g2,g3,g4,g5,g6,g7],rfl,rfl,rfl⟩
  ·rw [if_neg hg]
   cases okc<;>cases okw<;>cases okn<;>first | rfl | (simp;done) | (simp at hg ⊢;exact hg) | (simp at hg ⊢;intros;omega)
 rw [if_neg h2] at hc2
 have hT:s6 true a b=none:=by
  have h1:¬a.take 10=ccS:=h1
  have h2:¬a.take 16=combS:=h2
  unfold s6 A09
  rw [if_neg h1,if_neg h2]
 rw [hT]
 refine AL.Met.intro Tryz.func158 (by decide) Z Z Z ?_
 refine k2 ?_
 refine A4 (A3 (A6 Z Z) Z (A7 ?_))
 refine k1 (k2 ?_)
 refine A4 (A3 (A5 Z Z) Z (C1 (hc1) Z Z Z ?_));rintro _ rfl;refine A3 (A5 Z Z) Z (A3 (B3 Z Z) Z (A3 (B3 Z Z) Z (A3 (A6 Z Z) Z (A3 (A6 Z Z) Z (A7 ?_)))))
 refine k1 (k2 (k2 ?_))
 refine A4 (A3 (A5 Z Z) Z (A3 (F0 Z) Z (A7 ?_)))
 refine k1 ?_
 refine B4 rfl (fun ht=>?_) (fun ht=>?_)
 rotate_left
 ·cases ht
 refine k2 ?_
 refine A4 (A3 (A6 Z Z) Z (A7 ?_))
 refine k1 (k2 ?_)
 refine A4 (A3 (A5 Z Z) Z (C1 (hc2) Z Z Z ?_));rintro _ rfl;refine A3 (A5 Z Z) Z (A3 (B3 Z Z) Z (A3 (B3 Z Z) Z (A3 (A6 Z Z) Z (A3 (A6 Z Z) Z (A7 ?_)))))
 refine k1 (k2 ?_)
 refine A4 (A3 (A5 Z Z) Z (A3 (F0 Z) Z (A7 ?_)))
 refine k1 ?_
 refine B4 rfl (fun ht=>?_) (fun ht=>?_)
 rotate_left
 ·cases ht
 refine k2 ?_
 refine A4 (A3 (A6 Z Z) Z (A7 ?_))
 refine k1 (k10 (k11 ?_))
 exact G8 (R6 rfl rfl) (by repeat (first | exact C5 | refine tail_cons rfl ?_ | refine D3 _ ?_)) (fun _ _ h=>h) ⟨[],false,0,false,rfl,rfl,rfl⟩
def A67:CHunk→Nat→Cell
 | h,0=>.list Int 1 G6 h.At
 | h,_=>match h.Rows with
  | []=>.v (.slice none 0 0)
  | _::_=>.list Row 3 rowC h.Rows
abbrev G00 (w:Str) (d:Bool) (n:Int):Ob:=.box [.p (.v (.string ⟨w.toArray⟩)),.p (.v (.bool d)),.p (.v (.int .i64 n)),.mut 731]
abbrev W7 (w:Str) (d:Bool) (n:Int) (hs:List CHunk):Obs:=[(730,G00 w d n),(731,.grow 82 CHunk 2 A67 hs),(2,T7)]
abbrev W8 (w:Str) (d:Bool) (n:Int) (hs:List CHunk) (a:List Int) (rs:List Row):Obs :=
 [(730,G00 w d n),(731,.growA 82 CHunk 2 A67 hs (hs.length - 1) [.p (.list Int 1 G6 a),.mut 732]),(732,.grow 69 Row 3 rowC rs),(2,T7)]
abbrev gfL (x:Str) (R:List Str) (k:Nat):Fr:=[(1000032,J3 x),(1000031,.s (.one (.ref 730 0))),(1000004,.s (.one (.ref 730 0))),(1000002,.s (.one (.ref 2 0))),(1000025,D2 Str 1 M1 R),(1000026,C0 R.length),(1000027,C0 k),(1000006,J3 x)]
abbrev gfH (x:Str) (R:List Str) (k:Nat):Fr:=[(1000012,J3 x),(1000011,.s (.one (.ref 730 0))),(1000000,.s (.one (.ref 730 0))),(1000001,J3 x),(2000032,J3 x),(2000031,.s (.one (.ref 730 0))),(2000004,.s (.one (.ref 730 0))),(2000002,.s (.one (.ref 2 0))),(2000025,D2 Str 1 M1 R),(2000026,C0 R.length),(2000027,C0 k),(2000006,J3 x)]
theorem I30 {n k:Nat} {w:Str} {r:List Str} {a c:Int} {e:Nat} (h1:w.take 1=[A20 n k]) (h2:t7 (w.drop 1)=some (a,c,e)) (h3:e=(w.drop 1).length):P4 n k (w::r)=(P4 n (k+1) r).map (a::·):=by
 rw [P4,if_pos h1,h2]
 dsimp only
 rw [if_pos h3]
theorem J42 {n k:Nat} {w:Str} {r:List Str} (h1:w.take 1≠[A20 n k]):P4 n k (w::r)=none:=by rw [P4,if_neg h1]
theorem J43 {n k:Nat} {w:Str} {r:List Str} (h2:t7 (w.drop 1)=none):P4 n k (w::r)=none:=by
 rw [P4,h2];split<;>rfl
theorem J44 {n k:Nat} {w:Str} {r:List Str} {a c:Int} {e:Nat} (h2:t7 (w.drop 1)=some (a,c,e)) (h3:e≠(w.drop 1).length):P4 n k (w::r)=none:=by
 rw [P4,h2]
 dsimp only
 rw [if_neg h3];split<;>rfl
theorem G01 {n:Nat} {l:Str} (h:¬(l.take (n+2)=D12 n∧R4 (l.drop (n+2)) (C56 n)=true)):A40 n l=none:=by unfold A40;rw [if_neg h]
theorem K17 {n:Nat} {l:Str} (h:l.take (n+2)=D12 n∧R4 (l.drop (n+2)) (C56 n)=true):A40 n l=match P4 n 0 (M9 32 ((l.drop (n+2)).take ((l.drop (n+2)).length - (n+2)))) with
   | some a=>if a.length=n+1 then some a else none
   | none=>none:=by unfold A40;rw [if_pos h];rfl
set_option maxHeartbeats 4000000
theorem H37 (x:Str) (R:List Str) (k:Nat) (w:Str) (d:Bool) (N:Nat) (hs:List CHunk) (hN:1≤N∧N≤32) (hl:hs.length≤16777216) (hx:x.length≤4194304) :
  AL.Met Tryz.prog 223 [.one (.ref 730 0),.one (.p (.v (.string ⟨x.toArray⟩)))] (gfH x R k) (W7 w d N hs) [731]
   (fun rs ob'=>match A40 N x with
    | none=>rs=[tBo false]∧ob'=[(2,T7)]
    | some a=>rs=[tBo true]∧ob'=W7 w d N (hs++[⟨a,[]⟩])):=by
 have hrep:FnOk Tryz.prog 167 [G7 [64],F2 ((N:Int)+1)] (fun rs=>rs=[G7 (atS (N+1))]):=by
  have:=F94 64 (N+1) (by omega)
  rwa [show ((N+1:Nat):Int)=(N:Int)+1 by omega] at this
 have hal:=y1 (N+1)
 have hpl:(D12 N).length=N+2:=by simp [D12,y1]
 have hsl:(C56 N).length=N+2:=by simp [C56,y1]
 have hcp:=p5 x (D12 N)
 unfold F51 at hcp
 rw [hpl] at hcp
 obtain ⟨H,hH⟩:∃H,H=A40 N x:=⟨_,rfl⟩
 rw [←hH]
 by_cases h1:x.take (N+2)=D12 N
 rotate_left
 ·rw [if_neg h1] at hcp
  have hno:H=none:=by rw [hH];exact G01 (fun h=>h1 h.1)
  rw [hno]
  refine AL.Met.intro Tryz.func223 (by decide) Z Z Z ?_
  refine k2 ?_
  refine A4 (A3 (A6 Z Z) Z (A7 ?_))
  refine k1 (k2 ?_)
  refine A4 (A3 (A5 Z Z) Z (A3 (B2 Z) Z (A3 (A8 Z) Z (A3 (A8 Z) Z (A3 (A9 Z Z Z) Z (A3 (C6 Z Z (by omega)) Z (C1 (hrep) Z Z Z ?_)))))));rintro _ rfl;refine A3 (A6 Z Z) Z (A7 ?_)
  refine k1 (k2 ?_)
  refine A4 (A3 (A5 Z Z) Z (A3 (A5 Z Z) Z (A3 (I4 Z Z (by (simp;omega))) Z (C1 (hcp) Z Z Z ?_))));rintro _ rfl;refine A3 (A5 Z Z) Z (A3 (B3 Z Z) Z (A3 (B3 Z Z) Z (A3 (A6 Z Z) Z (A3 (A6 Z Z) Z (A7 ?_)))))
  refine k1 (k2 (k2 ?_))
  refine A4 (A3 (A5 Z Z) Z (A3 (F0 Z) Z (A7 ?_)))
  refine k1 ?_
  refine B4 rfl (fun ht=>?_) (fun ht=>?_)
  ·refine k2 ?_
   refine E8 (Sees.forget 731) ?_
   refine A4 (A3 (A6 Z Z) Z (A7 ?_))
   refine k1 (k10 (k11 ?_))
   exact G8 (R6 rfl rfl) (by repeat (first | exact C5 | refine tail_cons rfl ?_ | refine D3 _ ?_)) (ObIn.spec (ob':=[(2,T7)]) ⟨rfl,trivial⟩) ⟨rfl,rfl⟩
  ·cases ht
 rw [if_pos h1] at hcp
 obtain ⟨y,hy⟩:∃y,y=x.drop (N+2):=⟨_,rfl⟩
 have hyl:y.length≤x.length:=by rw [hy,L05];omega
 have hcs:=F55 y (C56 N) (by omega)
 unfold F93 at hcs
 rw [hsl] at hcs
 rw [←hy] at hcp
 by_cases h2:R4 y (C56 N)=true
 rotate_left
 ·rw [if_neg h2] at hcs
  have hno:H=none:=by rw [hH];exact G01 (fun h=>h2 (by rw [hy];exact h.2))
  rw [hno]
  refine AL.Met.intro Tryz.func223 (by decide) Z Z Z ?_
  refine k2 ?_
  refine A4 (A3 (A6 Z Z) Z (A7 ?_))
  refine k1 (k2 ?_)
  refine A4 (A3 (A5 Z Z) Z (A3 (B2 Z) Z (A3 (A8 Z) Z (A3 (A8 Z) Z (A3 (A9 Z Z Z) Z (A3 (C6 Z Z (by omega)) Z (C1 (hrep) Z Z Z ?_)))))));rintro _ rfl;refine A3 (A6 Z Z) Z (A7 ?_)
  refine k1 (k2 ?_)
  refine A4 (A3 (A5 Z Z) Z (A3 (A5 Z Z) Z (A3 (I4 Z Z (by (simp;omega))) Z (C1 (hcp) Z Z Z ?_))));rintro _ rfl;refine A3 (A5 Z Z) Z (A3 (B3 Z Z) Z (A3 (B3 Z Z) Z (A3 (A6 Z Z) Z (A3 (A6 Z Z) Z (A7 ?_)))))
  refine k1 (k2 (k2 ?_))
  refine A4 (A3 (A5 Z Z) Z (A3 (F0 Z) Z (A7 ?_)))
  refine k1 ?_
  refine B4 rfl (fun ht=>?_) (fun ht=>?_)
  ·cases ht
  refine k5 (k1 (k2 (k2 ?_)))
  refine A4 (A3 (A5 Z Z) Z (A3 (A5 Z Z) Z (A3 (I4 Z Z (by (simp;omega))) Z (C1 (hcs) Z Z Z ?_))));rintro _ rfl;refine A3 (A5 Z Z) Z (A3 (B3 Z Z) Z (A3 (B3 Z Z) Z (A3 (A6 Z Z) Z (A3 (A6 Z Z) Z (A7 ?_)))))
  refine k1 (k2 ?_)
  refine A4 (A3 (A5 Z Z) Z (A3 (F0 Z) Z (A7 ?_)))
  refine k1 ?_
  refine B4 rfl (fun ht=>?_) (fun ht=>?_)
  ·refine k2 ?_
   refine E8 (Sees.forget 731) ?_
   refine A4 (A3 (A6 Z Z) Z (A7 ?_))
   refine k1 (k10 (k11 ?_))
   exact G8 (R6 rfl rfl) (by repeat (first | exact C5 | refine tail_cons rfl ?_ | refine D3 _ ?_)) (ObIn.spec (ob':=[(2,T7)]) ⟨rfl,trivial⟩) ⟨rfl,rfl⟩
  ·cases ht
 rw [if_pos h2] at hcs
 rw [K17 ⟨h1,by rw [←hy];exact h2⟩,←hy] at hH
 obtain ⟨z,hz⟩:∃z,z=y.take (y.length - (N+2)):=⟨_,rfl⟩
 have hzl:z.length≤x.length:=by rw [hz,L08];omega
 rw [←hz] at hcs hH
 have hsp:=J34 z 32 (by omega)
 obtain ⟨W,hW⟩:∃W,W=M9 32 z:=⟨_,rfl⟩
 have hWl:W.length≤z.length+1:=by
  have h3:=s5 32 z
  have h4:z.count 32≤z.length:=List.count_le_length
  rw [hW];omega
 have hWm:∀v∈W,v.length≤16777216:=by
  intro v hv
  rw [hW] at hv
  have:=F20 z v hv
  omega
 rw [←hW] at hsp hH
 have hfail:P4 N 0 W=none→H=none:=fun h=>by rw [hH,h]
 have hdone:∀a,P4 N 0 W=some a→H=if a.length=N+1 then some a else none:=fun a h=>by rw [hH,h]
 refine AL.Met.intro Tryz.func223 (by decide) Z Z Z ?_
 refine k2 ?_
 refine A4 (A3 (A6 Z Z) Z (A7 ?_))
 refine k1 (k2 ?_)
 refine A4 (A3 (A5 Z Z) Z (A3 (B2 Z) Z (A3 (A8 Z) Z (A3 (A8 Z) Z (A3 (A9 Z Z Z) Z (A3 (C6 Z Z (by omega)) Z (C1 (hrep) Z Z Z ?_)))))));rintro _ rfl;refine A3 (A6 Z Z) Z (A7 ?_)
 refine k1 (k2 ?_)
 refine A4 (A3 (A5 Z Z) Z (A3 (A5 Z Z) Z (A3 (I4 Z Z (by (simp;omega))) Z (C1 (hcp) Z Z Z ?_))));rintro _ rfl;refine A3 (A5 Z Z) Z (A3 (B3 Z Z) Z (A3 (B3 Z Z) Z (A3 (A6 Z Z) Z (A3 (A6 Z Z) Z (A7 ?_)))))
 refine k1 (k2 (k2 ?_))
 refine A4 (A3 (A5 Z Z) Z (A3 (F0 Z) Z (A7 ?_)))
 refine k1 ?_
 refine B4 rfl (fun ht=>?_) (fun ht=>?_)
 ·cases ht
 refine k5 (k1 (k2 (k2 ?_)))
 refine A4 (A3 (A5 Z Z) Z (A3 (A5 Z Z) Z (A3 (I4 Z Z (by (simp;omega))) Z (C1 (hcs) Z Z Z ?_))));rintro _ rfl;refine A3 (A5 Z Z) Z (A3 (B3 Z Z) Z (A3 (B3 Z Z) Z (A3 (A6 Z Z) Z (A3 (A6 Z Z) Z (A7 ?_)))))
 refine k1 (k2 ?_)
 refine A4 (A3 (A5 Z Z) Z (A3 (F0 Z) Z (A7 ?_)))
 refine k1 ?_
 refine B4 rfl (fun ht=>?_) (fun ht=>?_)
 ·cases ht
 refine K4 [(0,.s (.one (.ref 730 0))),(6,J3 z),(1000012,J3 x),(1000011,.s (.one (.ref 730 0))),(1000000,.s (.one (.ref 730 0))),(1000001,J3 x),(2000032,J3 x),(2000031,.s (.one (.ref 730 0))),(2000004,.s (.one (.ref 730 0))),(2000002,.s (.one (.ref 2 0))),(2000025,D2 Str 1 M1 R),(2000026,C0 R.length),(2000027,C0 k),(2000006,J3 x)] (W7 w d N hs) (K60 ⟨le1 rfl,le1 rfl,le1 rfl,le1 rfl,le1 rfl,le1 rfl,le1 rfl,le1 rfl,le1 rfl,le1 rfl,le1 rfl,le1 rfl,le1 rfl,le1 rfl,trivial⟩ ⟨rfl,rfl,rfl,trivial⟩) ?_
 refine k5 (k1 (k2 ?_))
 refine A4 (A3 (G4 Z) Z (C7 (F9 740 Z) Z (E5 (B7 TySz.out Z Z Z Z Z Z) (A7 ?_))))
 refine k1 (k2 (k2 ?_))
 refine E8 (K69 741 Int 1 G6 3 (kb:=740) (o:=0) Z Z Z) ?_
 refine A4 (A3 (A5 Z Z) Z (C1 (hsp) Z Z Z ?_));rintro _ rfl;refine A3 (F1 Z (.pure _ _ _ _)) Z (A3 (A5 Z Z) Z (A7 ?_))
 refine k1 (k3 ?_)
 refine E1 (X:=Nat × List Int) (fun q=>([(0,.s (.one (.ref 730 0))),(8,.s (.one (.ref 740 0))),(45,D2 Str 1 M1 W),(46,C0 W.length),(47,C0 q.1),(1000012,J3 x),(1000011,.s (.one (.ref 730 0))),(1000000,.s (.one (.ref 730 0))),(1000001,J3 x),(2000032,J3 x),(2000031,.s (.one (.ref 730 0))),(2000004,.s (.one (.ref 730 0))),(2000002,.s (.one (.ref 2 0))),(2000025,D2 Str 1 M1 R),(2000026,C0 R.length),(2000027,C0 k),(2000006,J3 x)],[(730,G00 w d N),(731,.grow 82 CHunk 2 A67 hs),(2,T7),(740,.box [.buf 741 Int 1 G6 q.2,.p (.v (.slice none 0 0))]),(741,.spare q.2.length 1 3)])) (fun q=>q.1≤W.length∧q.2.length=q.1∧P4 N 0 W=(P4 N q.1 (W.drop q.1)).map (q.2++·)) (fun q=>W.length - q.1) (0,[]) ⟨Nat.zero_le _,rfl,by simp⟩ (K60 ⟨le1 rfl,le1 rfl,le1 rfl,le1 rfl,le1 rfl,le1 rfl,le1 rfl,le1 rfl,le1 rfl,le1 rfl,le1 rfl,le1 rfl,le1 rfl,le1 rfl,le1 rfl,le1 rfl,le1 rfl,trivial⟩ ⟨rfl,rfl,rfl,rfl,rfl,trivial⟩) ?_
 rintro ⟨j,a⟩ ⟨hj,haj,hp⟩
 dsimp only at hj haj hp ⊢
 refine k2 ?_
 refine A4 (A3 (E6 Z Z) Z (A7 ?_))
 refine k1 (k2 ?_)
 refine B4 rfl (fun ht=>?_) (fun ht=>?_)
 ·have hlt:j < W.length:=by have:=A0 ht;omega
  have hv:W[j]?=some W[j]:=by simp [hlt]
  have hvm:=hWm _ (L15 hlt)
  rw [L03 hlt] at hp
  obtain ⟨v,hvv⟩:∃v,v=W[j]:=⟨_,rfl⟩
  rw [←hvv] at hv hvm hp
  have hcv:=p5 v [A20 N j]
  unfold F51 at hcv
  refine k5 (k1 (k2 (k3 (k2 ?_))))
  refine A4 (A3 (A5 Z Z) Z (A3 (B9 Z (.pure _ _ _ _) Z (by omega) hv) Z (A3 (C8 Z Z) Z (A3 (A6 Z Z) Z (A3 (A6 Z Z) Z (A7 ?_))))))
  refine k1 (k2 ?_)
  refine A4 (A3 (A6 Z Z) Z (A7 ?_))
  refine J8 ?_
  refine u9 [(0,.s (.one (.ref 730 0))),(8,.s (.one (.ref 740 0))),(45,D2 Str 1 M1 W),(46,C0 W.length),(47,C0 j),(10,J3 v),(11,J3 [A20 N j]),(1000012,J3 x),(1000011,.s (.one (.ref 730 0))),(1000000,.s (.one (.ref 730 0))),(1000001,J3 x),(2000032,J3 x),(2000031,.s (.one (.ref 730 0))),(2000004,.s (.one (.ref 730 0))),(2000002,.s (.one (.ref 2 0))),(2000025,D2 Str 1 M1 R),(2000026,C0 R.length),(2000027,C0 k),(2000006,J3 x)] ([(730,G00 w d N),(731,.grow 82 CHunk 2 A67 hs),(2,T7),(740,.box [.buf 741 Int 1 G6 a,.p (.v (.slice none 0 0))]),(741,.spare a.length 1 3)]) ?_ ?_
  ·refine k2 ?_
   refine A4 (A3 (A5 Z Z) Z (A3 (A5 Z Z) Z (A3 (B2 Z) Z (A3 (A8 Z) Z (A3 (A8 Z) Z (A3 (A9 Z Z Z) Z (A3 (I1 Z Z) Z (A7 ?_))))))))
   refine k1 ?_
   refine B4 rfl (fun ht=>?_) (fun ht=>?_)
   ·have hjn:=A0 ht
    skip
    refine A4 (A3 (A6 Z Z) Z (A7 ?_))
    refine k1 ?_
    rw [show A20 N j=43 by unfold A20;rw [if_pos (by omega)]]
    exact K60 ⟨le1 rfl,le1 rfl,le1 rfl,le1 rfl,le1 rfl,le1 rfl,le1 rfl,le1 rfl,le1 rfl,le1 rfl,le1 rfl,le1 rfl,le1 rfl,le1 rfl,le1 rfl,le1 rfl,le1 rfl,le1 rfl,le1 rfl,trivial⟩ ⟨rfl,rfl,rfl,rfl,rfl,trivial⟩
   ·have hjn:=A1 ht
    refine k5 (k1 ?_)
    rw [show A20 N j=45 by unfold A20;rw [if_neg (by omega)]]
    exact K60 ⟨le1 rfl,le1 rfl,le1 rfl,le1 rfl,le1 rfl,le1 rfl,le1 rfl,le1 rfl,le1 rfl,le1 rfl,le1 rfl,le1 rfl,le1 rfl,le1 rfl,le1 rfl,le1 rfl,le1 rfl,le1 rfl,le1 rfl,trivial⟩ ⟨rfl,rfl,rfl,rfl,rfl,trivial⟩
  by_cases h3:v.take 1=[A20 N j]
  rotate_left
  ·have hcv:FnOk Tryz.prog 213 [G7 v,G7 [A20 N j]] (fun rs=>rs=[G7 v,E3 false]):=by
    have h4:¬v.take ([A20 N j]:Str).length=[A20 N j]:=h3
    rw [if_neg h4] at hcv;exact hcv
   have hno:H=none:=hfail (by rw [hp,J42 h3];rfl)
   have hrg:=F91 v 0 (Nat.zero_le _) (by omega)
   rw [hno]
   cases g:t7 v with
   | none =>
    rw [F97 (by rw [List.drop_zero];exact g)] at hrg
    refine k2 ?_
    refine A4 (A3 (A5 Z Z) Z (A3 (A5 Z Z) Z (C1 (hcv) Z Z Z ?_)));rintro _ rfl;refine A3 (A5 Z Z) Z (A3 (B3 Z Z) Z (A3 (B3 Z Z) Z (A3 (A6 Z Z) Z (A3 (A6 Z Z) Z (A7 ?_)))))
    refine k1 (k2 ?_)
    refine A4 (A3 (A5 Z Z) Z (C1 (hrg) Z Z Z ?_));rintro _ rfl;refine A3 (A5 Z Z) Z (A3 (B3 Z Z) Z (A3 (B3 Z Z) Z (A3 (B3 Z Z) Z (A3 (B3 Z Z) Z (A3 (A6 Z Z) Z (A3 (A6 Z Z) Z (A3 (A6 Z Z) Z (A3 (A6 Z Z) Z (A7 ?_)))))))))
    refine k1 (k2 (k2 ?_))
    refine A4 (A3 (A5 Z Z) Z (A3 (F0 Z) Z (A3 (A5 Z Z) Z (B0 Z Z Z Z (fun hg=>by rw [hg];exact A5 Z Z) ?_))));refine B0 Z Z Z Z (fun hg=>by rw [hg];exact F0 Z) ?_;refine A3 (B5 Z (fun h=>by first | rfl | (rw [h];rfl)) (fun h=>by first | rfl | (rw [h];rfl))) Z ?_;refine A3 (A5 Z Z) Z (B0 Z Z Z Z (fun hg=>by rw [hg];exact A5 Z Z) ?_);refine B0 Z Z Z Z (fun hg=>by rw [hg];exact A5 Z Z) ?_;refine B0 Z Z Z Z (fun hg=>by rw [hg];exact E7 Z) ?_;refine B0 Z Z Z Z (fun hg=>by rw [hg];exact O6 Z Z) ?_;refine A3 (B5 Z (fun h=>by first | rfl | (rw [h];rfl)) (fun h=>by first | rfl | (rw [h];rfl))) Z ?_;refine A7 ?_
    refine k1 ?_
    refine B4 rfl (fun ht=>?_) (fun ht=>?_)
    ·refine k2 ?_
     refine E8 (Sees.forget 731) ?_
     refine A4 (A3 (A6 Z Z) Z (A7 ?_))
     refine k1 (k10 (k11 (k12 (k11 (k11 (k12 (k11 ?_)))))))
     exact G8 (R6 rfl rfl) (by repeat (first | exact C5 | refine tail_cons rfl ?_ | refine D3 _ ?_)) (ObIn.spec (ob':=[(2,T7)]) ⟨rfl,trivial⟩) ⟨rfl,rfl⟩
    ·exfalso;revert ht;simp
   | some q =>
    obtain ⟨s,c,e⟩:=q
    rw [F98 (k:=e) (by rw [List.drop_zero];exact g)] at hrg
    refine k2 ?_
    refine A4 (A3 (A5 Z Z) Z (A3 (A5 Z Z) Z (C1 (hcv) Z Z Z ?_)));rintro _ rfl;refine A3 (A5 Z Z) Z (A3 (B3 Z Z) Z (A3 (B3 Z Z) Z (A3 (A6 Z Z) Z (A3 (A6 Z Z) Z (A7 ?_)))))
    refine k1 (k2 ?_)
    refine A4 (A3 (A5 Z Z) Z (C1 (hrg) Z Z Z ?_));rintro _ rfl;refine A3 (A5 Z Z) Z (A3 (B3 Z Z) Z (A3 (B3 Z Z) Z (A3 (B3 Z Z) Z (A3 (B3 Z Z) Z (A3 (A6 Z Z) Z (A3 (A6 Z Z) Z (A3 (A6 Z Z) Z (A3 (A6 Z Z) Z (A7 ?_)))))))))
    refine k1 (k2 (k2 ?_))
    refine A4 (A3 (A5 Z Z) Z (A3 (F0 Z) Z (A3 (A5 Z Z) Z (B0 Z Z Z Z (fun hg=>by rw [hg];exact A5 Z Z) ?_))));refine B0 Z Z Z Z (fun hg=>by rw [hg];exact F0 Z) ?_;refine A3 (B5 Z (fun h=>by first | rfl | (rw [h];rfl)) (fun h=>by first | rfl | (rw [h];rfl))) Z ?_;refine A3 (A5 Z Z) Z (B0 Z Z Z Z (fun hg=>by rw [hg];exact A5 Z Z) ?_);refine B0 Z Z Z Z (fun hg=>by rw [hg];exact A5 Z Z) ?_;refine B0 Z Z Z Z (fun hg=>by rw [hg];exact E7 Z) ?_;refine B0 Z Z Z Z (fun hg=>by rw [hg];exact O6 Z Z) ?_;refine A3 (B5 Z (fun h=>by first | rfl | (rw [h];rfl)) (fun h=>by first | rfl | (rw [h];rfl))) Z ?_;refine A7 ?_
    refine k1 ?_
    refine B4 rfl (fun ht=>?_) (fun ht=>?_)
    ·refine k2 ?_
     refine E8 (Sees.forget 731) ?_
     refine A4 (A3 (A6 Z Z) Z (A7 ?_))
     refine k1 (k10 (k11 (k12 (k11 (k11 (k12 (k11 ?_)))))))
     exact G8 (R6 rfl rfl) (by repeat (first | exact C5 | refine tail_cons rfl ?_ | refine D3 _ ?_)) (ObIn.spec (ob':=[(2,T7)]) ⟨rfl,trivial⟩) ⟨rfl,rfl⟩
    ·exfalso;revert ht;simp
  have hcv:FnOk Tryz.prog 213 [G7 v,G7 [A20 N j]] (fun rs=>rs=[G7 (v.drop 1),E3 true]):=by
   have h4:v.take ([A20 N j]:Str).length=[A20 N j]:=h3
   rw [if_pos h4] at hcv;exact hcv
  obtain ⟨u,huu⟩:∃u,u=v.drop 1:=⟨_,rfl⟩
  have hul:u.length≤16777216:=by rw [huu,L05];omega
  rw [←huu] at hcv
  have hrg:=F91 u 0 (Nat.zero_le _) (by omega)
  cases g:t7 u with
  | none =>
   rw [F97 (by rw [List.drop_zero];exact g)] at hrg
   have hno:H=none:=hfail (by rw [hp,J43 (by rw [←huu];exact g)];rfl)
   rw [hno]
   refine k2 ?_
   refine A4 (A3 (A5 Z Z) Z (A3 (A5 Z Z) Z (C1 (hcv) Z Z Z ?_)));rintro _ rfl;refine A3 (A5 Z Z) Z (A3 (B3 Z Z) Z (A3 (B3 Z Z) Z (A3 (A6 Z Z) Z (A3 (A6 Z Z) Z (A7 ?_)))))
   refine k1 (k2 ?_)
   refine A4 (A3 (A5 Z Z) Z (C1 (hrg) Z Z Z ?_));rintro _ rfl;refine A3 (A5 Z Z) Z (A3 (B3 Z Z) Z (A3 (B3 Z Z) Z (A3 (B3 Z Z) Z (A3 (B3 Z Z) Z (A3 (A6 Z Z) Z (A3 (A6 Z Z) Z (A3 (A6 Z Z) Z (A3 (A6 Z Z) Z (A7 ?_)))))))))
   refine k1 (k2 (k2 ?_))
   refine A4 (A3 (A5 Z Z) Z (A3 (F0 Z) Z (A3 (A5 Z Z) Z (B0 Z Z Z Z (fun hg=>by rw [hg];exact A5 Z Z) ?_))));refine B0 Z Z Z Z (fun hg=>by rw [hg];exact F0 Z) ?_;refine A3 (B5 Z (fun h=>by first | rfl | (rw [h];rfl)) (fun h=>by first | rfl | (rw [h];rfl))) Z ?_;refine A3 (A5 Z Z) Z (B0 Z Z Z Z (fun hg=>by rw [hg];exact A5 Z Z) ?_);refine B0 Z Z Z Z (fun hg=>by rw [hg];exact A5 Z Z) ?_;refine B0 Z Z Z Z (fun hg=>by rw [hg];exact E7 Z) ?_;refine B0 Z Z Z Z (fun hg=>by rw [hg];exact O6 Z Z) ?_;refine A3 (B5 Z (fun h=>by first | rfl | (rw [h];rfl)) (fun h=>by first | rfl | (rw [h];rfl))) Z ?_;refine A7 ?_
   refine k1 ?_
   refine B4 rfl (fun ht=>?_) (fun ht=>?_)
   ·refine k2 ?_
    refine E8 (Sees.forget 731) ?_
    refine A4 (A3 (A6 Z Z) Z (A7 ?_))
    refine k1 (k10 (k11 (k12 (k11 (k11 (k12 (k11 ?_)))))))
    exact G8 (R6 rfl rfl) (by repeat (first | exact C5 | refine tail_cons rfl ?_ | refine D3 _ ?_)) (ObIn.spec (ob':=[(2,T7)]) ⟨rfl,trivial⟩) ⟨rfl,rfl⟩
   ·exfalso;revert ht;simp
  | some q =>
   obtain ⟨s,c,e⟩:=q
   rw [F98 (k:=e) (by rw [List.drop_zero];exact g),Nat.zero_add] at hrg
   by_cases he:e=u.length
   rotate_left
   ·have hno:H=none:=hfail (by rw [hp,J44 (by rw [←huu];exact g) (by rw [←huu];exact he)];rfl)
    rw [hno]
    refine k2 ?_
    refine A4 (A3 (A5 Z Z) Z (A3 (A5 Z Z) Z (C1 (hcv) Z Z Z ?_)));rintro _ rfl;refine A3 (A5 Z Z) Z (A3 (B3 Z Z) Z (A3 (B3 Z Z) Z (A3 (A6 Z Z) Z (A3 (A6 Z Z) Z (A7 ?_)))))
    refine k1 (k2 ?_)
    refine A4 (A3 (A5 Z Z) Z (C1 (hrg) Z Z Z ?_));rintro _ rfl;refine A3 (A5 Z Z) Z (A3 (B3 Z Z) Z (A3 (B3 Z Z) Z (A3 (B3 Z Z) Z (A3 (B3 Z Z) Z (A3 (A6 Z Z) Z (A3 (A6 Z Z) Z (A3 (A6 Z Z) Z (A3 (A6 Z Z) Z (A7 ?_)))))))))
    refine k1 (k2 (k2 ?_))
    refine A4 (A3 (A5 Z Z) Z (A3 (F0 Z) Z (A3 (A5 Z Z) Z (B0 Z Z Z Z (fun hg=>by rw [hg];exact A5 Z Z) ?_))));refine B0 Z Z Z Z (fun hg=>by rw [hg];exact F0 Z) ?_;refine A3 (B5 Z (fun h=>by first | rfl | (rw [h];rfl)) (fun h=>by first | rfl | (rw [h];rfl))) Z ?_;refine A3 (A5 Z Z) Z (B0 Z Z Z Z (fun hg=>by rw [hg];exact A5 Z Z) ?_);refine B0 Z Z Z Z (fun hg=>by rw [hg];exact A5 Z Z) ?_;refine B0 Z Z Z Z (fun hg=>by rw [hg];exact E7 Z) ?_;refine B0 Z Z Z Z (fun hg=>by rw [hg];exact O6 Z Z) ?_;refine A3 (B5 Z (fun h=>by first | rfl | (rw [h];rfl)) (fun h=>by first | rfl | (rw [h];rfl))) Z ?_;refine A7 ?_
    refine k1 ?_
    refine B4 rfl (fun ht=>?_) (fun ht=>?_)
    ·refine k2 ?_
     refine E8 (Sees.forget 731) ?_
     refine A4 (A3 (A6 Z Z) Z (A7 ?_))
     refine k1 (k10 (k11 (k12 (k11 (k11 (k12 (k11 ?_)))))))
     exact G8 (R6 rfl rfl) (by repeat (first | exact C5 | refine tail_cons rfl ?_ | refine D3 _ ?_)) (ObIn.spec (ob':=[(2,T7)]) ⟨rfl,trivial⟩) ⟨rfl,rfl⟩
    ·exfalso;revert ht;simp;omega
   rw [I30 h3 (by rw [←huu];exact g) (by rw [←huu];exact he),Option.map_map] at hp
   refine k2 ?_
   refine A4 (A3 (A5 Z Z) Z (A3 (A5 Z Z) Z (C1 (hcv) Z Z Z ?_)));rintro _ rfl;refine A3 (A5 Z Z) Z (A3 (B3 Z Z) Z (A3 (B3 Z Z) Z (A3 (A6 Z Z) Z (A3 (A6 Z Z) Z (A7 ?_)))))
   refine k1 (k2 ?_)
   refine A4 (A3 (A5 Z Z) Z (C1 (hrg) Z Z Z ?_));rintro _ rfl;refine A3 (A5 Z Z) Z (A3 (B3 Z Z) Z (A3 (B3 Z Z) Z (A3 (B3 Z Z) Z (A3 (B3 Z Z) Z (A3 (A6 Z Z) Z (A3 (A6 Z Z) Z (A3 (A6 Z Z) Z (A3 (A6 Z Z) Z (A7 ?_)))))))))
   refine k1 (k2 (k2 ?_))
   refine A4 (A3 (A5 Z Z) Z (A3 (F0 Z) Z (A3 (A5 Z Z) Z (B0 Z Z Z Z (fun hg=>by rw [hg];exact A5 Z Z) ?_))));refine B0 Z Z Z Z (fun hg=>by rw [hg];exact F0 Z) ?_;refine A3 (B5 Z (fun h=>by first | rfl | (rw [h];rfl)) (fun h=>by first | rfl | (rw [h];rfl))) Z ?_;refine A3 (A5 Z Z) Z (B0 Z Z Z Z (fun hg=>by rw [hg];exact A5 Z Z) ?_);refine B0 Z Z Z Z (fun hg=>by rw [hg];exact A5 Z Z) ?_;refine B0 Z Z Z Z (fun hg=>by rw [hg];exact E7 Z) ?_;refine B0 Z Z Z Z (fun hg=>by rw [hg];exact O6 Z Z) ?_;refine A3 (B5 Z (fun h=>by first | rfl | (rw [h];rfl)) (fun h=>by first | rfl | (rw [h];rfl))) Z ?_;refine A7 ?_
   refine k1 ?_
   refine B4 rfl (fun ht=>?_) (fun ht=>?_)
   ·exfalso;revert ht;simp;omega
   refine K4 [(0,.s (.one (.ref 730 0))),(8,.s (.one (.ref 740 0))),(45,D2 Str 1 M1 W),(46,C0 W.length),(47,C0 j),(14,C0 s),(1000012,J3 x),(1000011,.s (.one (.ref 730 0))),(1000000,.s (.one (.ref 730 0))),(1000001,J3 x),(2000032,J3 x),(2000031,.s (.one (.ref 730 0))),(2000004,.s (.one (.ref 730 0))),(2000002,.s (.one (.ref 2 0))),(2000025,D2 Str 1 M1 R),(2000026,C0 R.length),(2000027,C0 k),(2000006,J3 x)] ([(730,G00 w d N),(731,.grow 82 CHunk 2 A67 hs),(2,T7),(740,.box [.buf 741 Int 1 G6 a,.p (.v (.slice none 0 0))]),(741,.spare a.length 1 3)]) (K60 ⟨le1 rfl,le1 rfl,le1 rfl,le1 rfl,le1 rfl,le1 rfl,le1 rfl,le1 rfl,le1 rfl,le1 rfl,le1 rfl,le1 rfl,le1 rfl,le1 rfl,le1 rfl,le1 rfl,le1 rfl,le1 rfl,trivial⟩ ⟨rfl,rfl,rfl,rfl,rfl,trivial⟩) ?_
   refine k5 (k1 ?_)
   refine A4 (A3 (A8 Z) Z (A3 (A9 Z Z Z) Z (A3 (A5 Z Z) Z (A3 (E4 (c:=G6) (ys:=[s]) (F3 Z Z Z Z I6) Z Z Z) Z (C7 (L0 Z Z Z (.pure _ _ _ _) (by (simp only [K99,L02];omega)) Z) Z (A3 (A8 Z) Z (E5 (B7 TySz.out Z Z Z Z Z Z) (A7 ?_))))))))
   refine k4 (k1 ?_)
   refine A4 (A3 (C6 Z Z (by omega)) Z (A3 (A5 Z Z) Z (A7 ?_)))
   refine k1 ?_
   refine ⟨(j+1,a++[s]),⟨by dsimp only;omega,by dsimp only;rw [K96];simp;omega,?_⟩,by dsimp only;omega,K60 ⟨le1 rfl,le1 rfl,le1 rfl,le1 rfl,le1 rfl,le1 rfl,le1 rfl,le1 rfl,le1 rfl,le1 rfl,le1 rfl,le1 rfl,le1 rfl,le1 rfl,le1 rfl,le1 rfl,le1 rfl,trivial⟩ ⟨rfl,rfl,rfl,rfl,rfl,trivial⟩⟩
   dsimp only
   rw [hp]
   congr 1
   funext q
   simp
 ·have hjl:j=W.length:=by have:=A1 ht;omega
  rw [hjl,L07 (Nat.le_refl _)] at hp
  have hp:P4 N 0 W=some a:=by rw [hp,P4];simp
  have hHa:=hdone a hp
  refine K4 [(0,.s (.one (.ref 730 0))),(8,.s (.one (.ref 740 0))),(1000012,J3 x),(1000011,.s (.one (.ref 730 0))),(1000000,.s (.one (.ref 730 0))),(1000001,J3 x),(2000032,J3 x),(2000031,.s (.one (.ref 730 0))),(2000004,.s (.one (.ref 730 0))),(2000002,.s (.one (.ref 2 0))),(2000025,D2 Str 1 M1 R),(2000026,C0 R.length),(2000027,C0 k),(2000006,J3 x)] ([(730,G00 w d N),(731,.grow 82 CHunk 2 A67 hs),(2,T7),(740,.box [.buf 741 Int 1 G6 a,.p (.v (.slice none 0 0))]),(741,.spare a.length 1 3)]) (K60 ⟨le1 rfl,le1 rfl,le1 rfl,le1 rfl,le1 rfl,le1 rfl,le1 rfl,le1 rfl,le1 rfl,le1 rfl,le1 rfl,le1 rfl,le1 rfl,le1 rfl,trivial⟩ ⟨rfl,rfl,rfl,rfl,rfl,trivial⟩) ?_
  refine k6 (k2 ?_)
  refine O2 [12,8] [[],[8],[12,8]] [(8,([731],[96])),(12,([],[]))] [(0,[]),(1,[]),(2,[]),(3,[]),(4,[]),(5,[]),(6,[]),(7,[]),(8,[]),(9,[8]),(10,[8]),(11,[8]),(12,[8])] [(0,[8])] (by kernel_rfl) (by kernel_rfl) (D6 Z Z (by kernel_rfl) Z Z (A5 Z Z) (D6 Z Z (by kernel_rfl) Z Z (A5 Z Z) (D6 Z Z (by kernel_rfl) Z Z (B2 Z) (D6 Z Z (by kernel_rfl) Z Z (A8 Z) (D6 Z Z (by kernel_rfl) Z Z (A8 Z) (D6 Z Z (by kernel_rfl) Z Z (A9 Z Z Z) (D6 Z Z (by kernel_rfl) Z Z (D5 Z Z Z) (D6 Z Z (by kernel_rfl) Z Z (E4 (c:=A67) (ys:=[⟨a,[]⟩]) (F3 Z Z Z Z I6) Z Z Z) (V6 Z Z (by kernel_rfl) Z Z (A97 (fun frc hU=>v6 (T5 hU Z) Z (T5 hU Z) (.pure _ _ _ _) (by (simp;omega)) Z)) Z (D6 Z Z (by kernel_rfl) Z Z (B2 Z) (D6 Z Z (by kernel_rfl) Z Z (A8 Z) (D6 Z Z (by kernel_rfl) Z Z (A8 Z) (V6 Z Z (by kernel_rfl) Z Z (C82 (fun frc hU=>B7 TySz.out (T5 hU Z) Z (T5 hU Z) Z Z Z)) Z ?_)))))))))))));refine C81 (by kernel_rfl) rfl ?_ ?_
  ·refine K6 Z Z (by kernel_rfl) Z Z (A5 Z Z) ?_;exact C14
  refine k1 (k2 ?_)
  refine D4 (by kernel_rfl) (by kernel_rfl) (B1 (A8 Z) Z Z (B1 (A9 Z Z Z) Z Z (B1 (F1 Z (.buf _ _ _ _ _)) Z Z (B1 (A5 Z Z) Z Z (B1 (B2 Z) Z Z (B1 (A8 Z) Z Z (B1 (A8 Z) Z Z (B1 (A9 Z Z Z) Z Z (B1 (C6 Z Z (by omega)) Z Z (B1 (I1 Z Z) Z Z (B1 (A6 Z Z) Z Z (L4 ?_))))))))))))
  refine k1 (k10 ?_)
  by_cases hal2:a.length=N+1
  ·rw [if_pos hal2] at hHa
   rw [hHa]
   refine G8 (ob':=W7 w d N (hs++[⟨a,[]⟩])) (R6 rfl rfl) (by repeat (first | exact C5 | refine tail_cons rfl ?_ | refine D3 _ ?_)) (ObIn.spec ⟨rfl,rfl,rfl,trivial⟩) ⟨?_,rfl⟩
   rw [decide_eq_true (by omega)]
  ·rw [if_neg hal2] at hHa
   rw [hHa]
   refine G8 (ob':=[(2,T7)]) (R6 rfl rfl) (by repeat (first | exact C5 | refine tail_cons rfl ?_ | refine D3 _ ?_)) (ObIn.spec ⟨rfl,trivial⟩) ⟨?_,rfl⟩
   rw [decide_eq_false (by omega)]
set_option maxHeartbeats 4000000
theorem K18 (x:Str) (R:List Str) (k:Nat) (w:Str) (d:Bool) (N:Nat) (hs:List CHunk) (hN:1≤N∧N≤32) (hl:hs.length≤16777216) (hx:x.length≤4194304) (h64:x.take 1=[64]) :
  AL.Met Tryz.prog 159 [.one (.ref 730 0),.one (.p (.v (.string ⟨x.toArray⟩)))] (gfL x R k) (W7 w d N hs) [731]
   (fun rs ob'=>match A40 N x with
    | none=>rs=[tBo false]∧ob'=[(2,T7)]
    | some a=>rs=[tBo true]∧ob'=W7 w d N (hs++[⟨a,[]⟩])):=by
 have hh:=H37 x R k w d N hs hN hl hx
 have hp:=A17 x [64]
 rw [show ([64]:Str).length=1 from rfl,decide_eq_true h64] at hp
 cases hH:A40 N x with
 | none =>
  rw [hH] at hh
  refine AL.Met.intro Tryz.func159 (by decide) Z Z Z ?_
  refine k2 ?_
  refine A4 (A3 (A6 Z Z) Z (A7 ?_))
  refine k1 (k2 (k2 ?_))
  refine A4 (A3 (A5 Z Z) Z (C1 (hp) Z Z Z ?_));rintro _ rfl;refine A7 ?_
  refine k1 ?_
  refine B4 rfl (fun ht=>?_) (fun ht=>?_)
  rotate_left
  ·cases ht
  refine K4 [(0,.s (.one (.ref 730 0))),(1,J3 x),(1000032,J3 x),(1000031,.s (.one (.ref 730 0))),(1000004,.s (.one (.ref 730 0))),(1000002,.s (.one (.ref 2 0))),(1000025,D2 Str 1 M1 R),(1000026,C0 R.length),(1000027,C0 k),(1000006,J3 x)] (W7 w d N hs) (K60 ⟨le1 rfl,le1 rfl,le1 rfl,le1 rfl,le1 rfl,le1 rfl,le1 rfl,le1 rfl,le1 rfl,le1 rfl,trivial⟩ ⟨rfl,rfl,rfl,trivial⟩) ?_
  refine k2 ?_
  refine A4 (A3 (A5 Z Z) Z (A3 (A5 Z Z) Z (T3 (hh) Z Z Z ?_)));rintro _ _ ⟨rfl,rfl⟩;refine A3 (A6 Z Z) Z (A7 ?_)
  refine k1 (k10 (k11 ?_))
  exact G8 (R6 rfl rfl) (by repeat (first | exact C5 | refine tail_cons rfl ?_ | refine D3 _ ?_)) (ObIn.spec (ob':=[(2,T7)]) ⟨rfl,trivial⟩) ⟨rfl,rfl⟩
 | some a =>
  rw [hH] at hh
  refine AL.Met.intro Tryz.func159 (by decide) Z Z Z ?_
  refine k2 ?_
  refine A4 (A3 (A6 Z Z) Z (A7 ?_))
  refine k1 (k2 (k2 ?_))
  refine A4 (A3 (A5 Z Z) Z (C1 (hp) Z Z Z ?_));rintro _ rfl;refine A7 ?_
  refine k1 ?_
  refine B4 rfl (fun ht=>?_) (fun ht=>?_)
  rotate_left
  ·cases ht
  refine K4 [(0,.s (.one (.ref 730 0))),(1,J3 x),(1000032,J3 x),(1000031,.s (.one (.ref 730 0))),(1000004,.s (.one (.ref 730 0))),(1000002,.s (.one (.ref 2 0))),(1000025,D2 Str 1 M1 R),(1000026,C0 R.length),(1000027,C0 k),(1000006,J3 x)] (W7 w d N hs) (K60 ⟨le1 rfl,le1 rfl,le1 rfl,le1 rfl,le1 rfl,le1 rfl,le1 rfl,le1 rfl,le1 rfl,le1 rfl,trivial⟩ ⟨rfl,rfl,rfl,trivial⟩) ?_
  refine k2 ?_
  refine A4 (A3 (A5 Z Z) Z (A3 (A5 Z Z) Z (T3 (hh) Z Z Z ?_)));rintro _ _ ⟨rfl,rfl⟩;refine A3 (A6 Z Z) Z (A7 ?_)
  refine k1 (k10 (k11 ?_))
  exact G8 (R6 rfl rfl) (by repeat (first | exact C5 | refine tail_cons rfl ?_ | refine D3 _ ?_)) (ObIn.spec (ob':=W7 w d N (hs++[⟨a,[]⟩])) ⟨rfl,rfl,rfl,trivial⟩) ⟨rfl,rfl⟩
theorem J45 (x:Str) (R:List Str) (k:Nat) (w:Str) (d:Bool) (N:Nat) (h64:x.take 1≠[64]) :
  AL.Met Tryz.prog 159 [.one (.ref 730 0),.one (.p (.v (.string ⟨x.toArray⟩)))] (gfL x R k) (W7 w d N []) [732] (fun rs ob'=>rs=[tBo false]∧ob'=[(2,T7)]):=by
 have hp:=A17 x [64]
 rw [show ([64]:Str).length=1 from rfl,decide_eq_false h64] at hp
 refine AL.Met.intro Tryz.func159 (by decide) Z Z Z ?_
 refine k2 ?_
 refine A4 (A3 (A6 Z Z) Z (A7 ?_))
 refine k1 (k2 (k2 ?_))
 refine A4 (A3 (A5 Z Z) Z (C1 (hp) Z Z Z ?_));rintro _ rfl;refine A7 ?_
 refine k1 ?_
 refine B4 rfl (fun ht=>?_) (fun ht=>?_)
 ·cases ht
 refine k5 (k1 (k2 (k2 ?_)))
 refine A4 (A3 (A5 Z Z) Z (A3 (B2 Z) Z (A3 (A8 Z) Z (A3 (A8 Z) Z (A3 (A9 Z Z Z) Z (A3 (C72 Z Z) Z (A3 (I1 Z Z) Z (A7 ?_))))))))
 refine k1 ?_
 refine B4 rfl (fun ht=>?_) (fun ht=>?_)
 ·refine k2 ?_
  refine E8 (Sees.forget 732) ?_
  refine A4 (A3 (A6 Z Z) Z (A7 ?_))
  refine k1 (k10 (k11 ?_))
  exact G8 (R6 rfl rfl) (by repeat (first | exact C5 | refine tail_cons rfl ?_ | refine D3 _ ?_)) (ObIn.spec (ob':=[(2,T7)]) ⟨rfl,trivial⟩) ⟨rfl,rfl⟩
 ·cases ht
theorem J46 (R:List Str) (k:Nat) (w:Str) (d:Bool) (N:Nat) (hs:List CHunk) (a:List Int) (rs:List Row) (h0:0 < hs.length) (hl:hs.length≤16777216) (hrl:rs.length≤16777216) (htx:∀r∈rs,r.Text.length≤1073741824) :
  AL.Met Tryz.prog 159 [.one (.ref 730 0),.one (.p (.v (.string ⟨noNl.toArray⟩)))] (gfL noNl R k) (W8 w d N hs a rs) []
   (fun res ob'=>match rs.getLast? with
    | none=>res=[tBo false]∧ob'=[(2,T7)]
    | some r=>res=[tBo true]∧ob'=W8 w d N hs a (rs.dropLast++[⟨r.Lost,r.Marks,B75 r.Text⟩])):=by
 have hp:=A17 noNl [64]
 rw [show decide (noNl.take ([64]:Str).length=[64])=false from rfl] at hp
 have hne0:decide ((hs.length:Int)=0)=false:=decide_eq_false (by omega)
 cases hx:rs.getLast? with
 | none =>
  have hn:rs=[]:=List.getLast?_eq_none_iff.1 hx
  subst hn
  refine AL.Met.intro Tryz.func159 (by decide) Z Z Z ?_
  refine k2 ?_
  refine A4 (A3 (A6 Z Z) Z (A7 ?_))
  refine k1 (k2 (k2 ?_))
  refine A4 (A3 (A5 Z Z) Z (C1 (hp) Z Z Z ?_));rintro _ rfl;refine A7 ?_
  refine k1 ?_
  refine B4 rfl (fun ht=>?_) (fun ht=>?_)
  ·cases ht
  refine k5 (k1 (k2 (k2 ?_)))
  refine A4 (A3 (A5 Z Z) Z (A3 (B2 Z) Z (A3 (A8 Z) Z (A3 (A8 Z) Z (A3 (A9 Z Z Z) Z (A3 (y6 Z Z) Z (A3 (I1 Z Z) Z (A7 ?_))))))))
  refine k1 ?_
  refine B4 rfl (fun ht=>?_) (fun ht=>?_)
  ·exact absurd (A0 ht) (by omega)
  refine k5 (k1 (k2 ?_))
  refine D4 (by kernel_rfl) (by kernel_rfl) (B1 (A5 Z Z) Z Z (B1 (B2 Z) Z Z (B1 (A8 Z) Z Z (B1 (A8 Z) Z Z (B1 (A9 Z Z Z) Z Z (B1 (A5 Z Z) Z Z (B1 (B2 Z) Z Z (B1 (A8 Z) Z Z (B1 (A8 Z) Z Z (B1 (A9 Z Z Z) Z Z (B1 (y6 Z Z) Z Z (B1 (Q4 Z Z (by omega)) Z Z (B1 (n6 Z Z Z (by omega) (by omega)) Z Z (B1 (A6 Z Z) Z Z (L4 ?_)))))))))))))))
  refine k1 (k2 (k2 ?_))
  refine A4 (A3 (A5 Z Z) Z (A3 (X2 Z Z) Z (A7 ?_)))
  refine k1 ?_
  refine B4 rfl (fun ht=>?_) (fun ht=>?_)
  rotate_left
  ·exact absurd rfl (A1 ht)
  refine k2 (k2 ?_)
  refine A4 (A3 (A5 Z Z) Z (A3 (L3 Z) Z (A3 (M6 Z) Z (A3 (A23 Z Z (by first | rfl | omega) Z) Z ?_))));refine A3 (C72 Z Z) Z (A3 (I1 Z Z) Z (A7 ?_))
  refine k1 ?_
  refine B4 rfl (fun ht=>?_) (fun ht=>?_)
  rotate_left
  ·exact absurd rfl (A1 ht)
  refine k2 ?_
  refine A4 (A3 (A6 Z Z) Z (A7 ?_))
  refine k1 (k10 (k11 (k11 ?_)))
  exact G8 (R6 rfl rfl) (by repeat (first | exact C5 | refine tail_cons rfl ?_ | refine D3 _ ?_)) (ObIn.spec (ob':=[(2,T7)]) ⟨rfl,trivial⟩) ⟨rfl,rfl⟩
 | some r =>
  have hne:rs≠[]:=fun e=>by rw [e] at hx;cases hx
  have hlen:=List.length_pos_iff.2 hne
  have hv:rs[((rs.length:Int) - 1).toNat]?=some r:=by rw [show ((rs.length:Int) - 1).toNat=rs.length - 1 by omega,←List.getLast?_eq_getElem?];exact hx
  have hset:∀y:Row,rs.set (((rs.length:Int) - 1).toNat) y=rs.dropLast++[y]:=by
   intro y
   rw [show ((rs.length:Int) - 1).toNat=rs.length - 1 by omega]
   have hd:=List.dropLast_concat_getLast hne
   conv=>lhs;rw [←hd]
   rw [List.set_append_right _ _ (by rw [List.length_dropLast,K96,List.length_dropLast];simp)]
   simp
  have hxt:=htx r (L13 hv)
  have htr:=C18 r.Text [10] (by omega)
  rw [C24,show B08 r.Text=B75 r.Text from rfl] at htr
  refine AL.Met.intro Tryz.func159 (by decide) Z Z Z ?_
  refine k2 ?_
  refine A4 (A3 (A6 Z Z) Z (A7 ?_))
  refine k1 (k2 (k2 ?_))
  refine A4 (A3 (A5 Z Z) Z (C1 (hp) Z Z Z ?_));rintro _ rfl;refine A7 ?_
  refine k1 ?_
  refine B4 rfl (fun ht=>?_) (fun ht=>?_)
  ·cases ht
  refine k5 (k1 (k2 (k2 ?_)))
  refine A4 (A3 (A5 Z Z) Z (A3 (B2 Z) Z (A3 (A8 Z) Z (A3 (A8 Z) Z (A3 (A9 Z Z Z) Z (A3 (y6 Z Z) Z (A3 (I1 Z Z) Z (A7 ?_))))))))
  refine k1 ?_
  refine B4 rfl (fun ht=>?_) (fun ht=>?_)
  ·exact absurd (A0 ht) (by omega)
  refine k5 (k1 (k2 ?_))
  refine D4 (by kernel_rfl) (by kernel_rfl) (B1 (A5 Z Z) Z Z (B1 (B2 Z) Z Z (B1 (A8 Z) Z Z (B1 (A8 Z) Z Z (B1 (A9 Z Z Z) Z Z (B1 (A5 Z Z) Z Z (B1 (B2 Z) Z Z (B1 (A8 Z) Z Z (B1 (A8 Z) Z Z (B1 (A9 Z Z Z) Z Z (B1 (y6 Z Z) Z Z (B1 (Q4 Z Z (by omega)) Z Z (B1 (n6 Z Z Z (by omega) (by omega)) Z Z (B1 (A6 Z Z) Z Z (L4 ?_)))))))))))))))
  refine k1 (k2 (k2 ?_))
  refine A4 (A3 (A5 Z Z) Z (A3 (X2 Z Z) Z (A7 ?_)))
  refine k1 ?_
  refine B4 rfl (fun ht=>?_) (fun ht=>?_)
  rotate_left
  ·exact absurd rfl (A1 ht)
  refine k2 (k2 ?_)
  refine A4 (A3 (A5 Z Z) Z (A3 (L3 Z) Z (A3 (M6 Z) Z (A3 (A23 Z Z (by first | rfl | omega) Z) Z ?_))));refine A3 (C72 Z Z) Z (A3 (I1 Z Z) Z (A7 ?_))
  refine k1 ?_
  refine B4 rfl (fun ht=>?_) (fun ht=>?_)
  ·exact absurd (A0 ht) (by omega)
  refine k5 (k1 (k2 ?_))
  refine D4 (by kernel_rfl) (by kernel_rfl) (B1 (A5 Z Z) Z Z (B1 (L3 Z) Z Z (B1 (M6 Z) Z Z (B1 (A23 Z Z (by first | rfl | omega) Z) Z Z ?_))));refine B1 (A5 Z Z) Z Z (B1 (L3 Z) Z Z (B1 (M6 Z) Z Z (B1 (A23 Z Z (by first | rfl | omega) Z) Z Z ?_)));refine B1 (C72 Z Z) Z Z (B1 (Q4 Z Z (by omega)) Z Z (B1 (C10 Z Z Z (by omega) (by omega)) Z Z (B1 (A6 Z Z) Z Z (L4 ?_))))
  refine k1 (k2 ?_)
  refine A4 (A3 (A5 Z Z) Z (A3 (A5 Z Z) Z (A3 (L3 Z) Z (A3 (M6 Z) Z (A3 (J95 Z Z hv Z) Z (C1 (htr) Z Z Z ?_))))));rintro _ rfl;refine A3 (L3 Z) Z (A3 (M6 Z) Z (E5 (F71 (⟨r.Lost,r.Marks,B75 r.Text⟩) TySz.out Z Z hv Z Z Z Z (fun _ _ _ h=>E38 h) (by intro j h1 h2;rcases j with _ | _ | _ | _ | _ | _ | _ | j<;>first | rfl | omega)) ?_));refine A7 ?_
  rw [hset]
  refine k1 (k2 ?_)
  refine A4 (A3 (A6 Z Z) Z (A7 ?_))
  refine k1 (k10 (k11 ?_))
  exact G8 (R6 rfl rfl) (by repeat (first | exact C5 | refine tail_cons rfl ?_ | refine D3 _ ?_)) (ObIn.spec (ob':=W8 w d N hs a (rs.dropLast++[⟨r.Lost,r.Marks,B75 r.Text⟩])) ⟨rfl,rfl,rfl,rfl,trivial⟩) ⟨rfl,rfl⟩
theorem J47 (x:Str) (R:List Str) (k:Nat) (w:Str) (d:Bool) (N:Nat) (hs:List CHunk) (a:List Int) (rs:List Row) (h0:0 < hs.length) (hl:hs.length≤16777216) (hrl:rs.length≤16777216) (hx:x.length≤4194304) (h64:x.take 1≠[64]) (hno:x≠noNl) :
  AL.Met Tryz.prog 159 [.one (.ref 730 0),.one (.p (.v (.string ⟨x.toArray⟩)))] (gfL x R k) (W8 w d N hs a rs) [732]
   (fun res ob'=>match A44 (x++[10]) N with
    | none=>res=[tBo false]∧ob'=[(2,T7)]
    | some r=>res=[tBo true]∧ob'=W8 w d N hs a (rs++[r])):=by
 have hp:=A17 x [64]
 rw [show ([64]:Str).length=1 from rfl,decide_eq_false h64] at hp
 have hR:=G61 (x++[10]) N
 cases hr:A44 (x++[10]) (N:Int) with
 | none =>
  rw [A81 hr] at hR
  refine AL.Met.intro Tryz.func159 (by decide) Z Z Z ?_
  refine k2 ?_
  refine A4 (A3 (A6 Z Z) Z (A7 ?_))
  refine k1 (k2 (k2 ?_))
  refine A4 (A3 (A5 Z Z) Z (C1 (hp) Z Z Z ?_));rintro _ rfl;refine A7 ?_
  refine k1 ?_
  refine B4 rfl (fun ht=>?_) (fun ht=>?_)
  ·cases ht
  refine k5 (k1 (k2 (k2 ?_)))
  refine A4 (A3 (A5 Z Z) Z (A3 (B2 Z) Z (A3 (A8 Z) Z (A3 (A8 Z) Z (A3 (A9 Z Z Z) Z (A3 (y6 Z Z) Z (A3 (I1 Z Z) Z (A7 ?_))))))))
  refine k1 ?_
  refine B4 rfl (fun ht=>?_) (fun ht=>?_)
  ·exact absurd (A0 ht) (by omega)
  refine k5 (k1 (k2 ?_))
  refine D4 (by kernel_rfl) (by kernel_rfl) (B1 (A5 Z Z) Z Z (B1 (B2 Z) Z Z (B1 (A8 Z) Z Z (B1 (A8 Z) Z Z (B1 (A9 Z Z Z) Z Z (B1 (A5 Z Z) Z Z (B1 (B2 Z) Z Z (B1 (A8 Z) Z Z (B1 (A8 Z) Z Z (B1 (A9 Z Z Z) Z Z (B1 (y6 Z Z) Z Z (B1 (Q4 Z Z (by omega)) Z Z (B1 (n6 Z Z Z (by omega) (by omega)) Z Z (B1 (A6 Z Z) Z Z (L4 ?_)))))))))))))))
  refine k1 (k2 (k2 ?_))
  refine A4 (A3 (A5 Z Z) Z (A3 (X2 Z Z) Z (A7 ?_)))
  refine k1 ?_
  refine B4 rfl (fun ht=>?_) (fun ht=>?_)
  ·exact absurd (A0 ht) hno
  refine K4 [(0,.s (.one (.ref 730 0))),(1,J3 x),(5,.s (.one (.mref 731 2 ((hs.length:Int) - 1).toNat 0))),(1000032,J3 x),(1000031,.s (.one (.ref 730 0))),(1000004,.s (.one (.ref 730 0))),(1000002,.s (.one (.ref 2 0))),(1000025,D2 Str 1 M1 R),(1000026,C0 R.length),(1000027,C0 k),(1000006,J3 x)] (W8 w d N hs a rs) (K60 ⟨le1 rfl,le1 rfl,le1 rfl,le1 rfl,le1 rfl,le1 rfl,le1 rfl,le1 rfl,le1 rfl,le1 rfl,le1 rfl,trivial⟩ ⟨rfl,rfl,rfl,rfl,trivial⟩) ?_
  refine k5 (k1 (k2 ?_))
  refine A4 (A3 (A5 Z Z) Z (A3 (I4 Z Z (by (simp;omega))) Z (A3 (A5 Z Z) Z (A3 (B2 Z) Z (A3 (A8 Z) Z (A3 (A8 Z) Z (A3 (A9 Z Z Z) Z (C1 (hR) Z Z Z ?_))))))));rintro _ rfl;refine A3 (A5 Z Z) Z (A3 (B3 Z Z) Z (A3 (B3 Z Z) Z (C7 (F9 733 Z) Z (E5 (B7 TySz.out Z Z Z Z Z Z) (A3 (A6 Z Z) Z (A7 ?_))))))
  refine k1 (k2 ?_)
  refine O2 [10,7] [[],[7],[10,7]] [(7,([732],[76])),(10,([],[]))] [(0,[]),(1,[]),(2,[]),(3,[]),(4,[]),(5,[]),(6,[]),(7,[]),(8,[7]),(9,[7]),(10,[7])] [(0,[7])] (by kernel_rfl) (by kernel_rfl) (D6 Z Z (by kernel_rfl) Z Z (A5 Z Z) (D6 Z Z (by kernel_rfl) Z Z (A5 Z Z) (D6 Z Z (by kernel_rfl) Z Z (L3 Z) (D6 Z Z (by kernel_rfl) Z Z (M6 Z) (D6 Z Z (by kernel_rfl) Z Z (A23 Z Z (by first | rfl | omega) Z) ?_)))));refine D6 Z Z (by kernel_rfl) Z Z (D5 Z Z Z) (D6 Z Z (by kernel_rfl) Z Z (E4 (c:=rowC) (ys:=[⟨false,0,[]⟩]) (F3 Z Z Z Z I6) Z Z Z) (V6 Z Z (by kernel_rfl) Z Z (A97 (fun frc hU=>v6 (T5 hU Z) Z (T5 hU Z) (.pure _ _ _ _) (by (simp;omega)) Z)) Z (D6 Z Z (by kernel_rfl) Z Z (L3 Z) (D6 Z Z (by kernel_rfl) Z Z (M6 Z) (V6 Z Z (by kernel_rfl) Z Z (C82 (fun frc hU=>E52 TySz.out (T5 hU Z) Z (by first | rfl | omega) (T5 hU Z) Z Z Z)) Z ?_)))));refine C81 (by kernel_rfl) rfl ?_ ?_
  ·refine K6 Z Z (by kernel_rfl) Z Z (A5 Z Z) ?_;exact C14
  refine k1 (k2 ?_)
  refine A4 (A3 (A5 Z Z) Z (A3 (A6 Z Z) Z (A7 ?_)))
  refine k1 (k10 ?_)
  exact G8 (R6 rfl rfl) (by repeat (first | exact C5 | refine tail_cons rfl ?_ | refine D3 _ ?_)) (ObIn.spec (ob':=[(2,T7)]) ⟨rfl,trivial⟩) ⟨rfl,rfl⟩
 | some r =>
  rw [D43 hr] at hR
  refine AL.Met.intro Tryz.func159 (by decide) Z Z Z ?_
  refine k2 ?_
  refine A4 (A3 (A6 Z Z) Z (A7 ?_))
  refine k1 (k2 (k2 ?_))
  refine A4 (A3 (A5 Z Z) Z (C1 (hp) Z Z Z ?_));rintro _ rfl;refine A7 ?_
  refine k1 ?_
  refine B4 rfl (fun ht=>?_) (fun ht=>?_)
  ·cases ht
  refine k5 (k1 (k2 (k2 ?_)))
  refine A4 (A3 (A5 Z Z) Z (A3 (B2 Z) Z (A3 (A8 Z) Z (A3 (A8 Z) Z (A3 (A9 Z Z Z) Z (A3 (y6 Z Z) Z (A3 (I1 Z Z) Z (A7 ?_))))))))
  refine k1 ?_
  refine B4 rfl (fun ht=>?_) (fun ht=>?_)
  ·exact absurd (A0 ht) (by omega)
  refine k5 (k1 (k2 ?_))
  refine D4 (by kernel_rfl) (by kernel_rfl) (B1 (A5 Z Z) Z Z (B1 (B2 Z) Z Z (B1 (A8 Z) Z Z (B1 (A8 Z) Z Z (B1 (A9 Z Z Z) Z Z (B1 (A5 Z Z) Z Z (B1 (B2 Z) Z Z (B1 (A8 Z) Z Z (B1 (A8 Z) Z Z (B1 (A9 Z Z Z) Z Z (B1 (y6 Z Z) Z Z (B1 (Q4 Z Z (by omega)) Z Z (B1 (n6 Z Z Z (by omega) (by omega)) Z Z (B1 (A6 Z Z) Z Z (L4 ?_)))))))))))))))
  refine k1 (k2 (k2 ?_))
  refine A4 (A3 (A5 Z Z) Z (A3 (X2 Z Z) Z (A7 ?_)))
  refine k1 ?_
  refine B4 rfl (fun ht=>?_) (fun ht=>?_)
  ·exact absurd (A0 ht) hno
  refine K4 [(0,.s (.one (.ref 730 0))),(1,J3 x),(5,.s (.one (.mref 731 2 ((hs.length:Int) - 1).toNat 0))),(1000032,J3 x),(1000031,.s (.one (.ref 730 0))),(1000004,.s (.one (.ref 730 0))),(1000002,.s (.one (.ref 2 0))),(1000025,D2 Str 1 M1 R),(1000026,C0 R.length),(1000027,C0 k),(1000006,J3 x)] (W8 w d N hs a rs) (K60 ⟨le1 rfl,le1 rfl,le1 rfl,le1 rfl,le1 rfl,le1 rfl,le1 rfl,le1 rfl,le1 rfl,le1 rfl,le1 rfl,trivial⟩ ⟨rfl,rfl,rfl,rfl,trivial⟩) ?_
  refine k5 (k1 (k2 ?_))
  refine A4 (A3 (A5 Z Z) Z (A3 (I4 Z Z (by (simp;omega))) Z (A3 (A5 Z Z) Z (A3 (B2 Z) Z (A3 (A8 Z) Z (A3 (A8 Z) Z (A3 (A9 Z Z Z) Z (C1 (hR) Z Z Z ?_))))))));rintro _ rfl;refine A3 (A5 Z Z) Z (A3 (B3 Z Z) Z (A3 (B3 Z Z) Z (C7 (F9 733 Z) Z (E5 (B7 TySz.out Z Z Z Z Z Z) (A3 (A6 Z Z) Z (A7 ?_))))))
  refine k1 (k2 ?_)
  refine O2 [10,7] [[],[7],[10,7]] [(7,([732],[76])),(10,([],[]))] [(0,[]),(1,[]),(2,[]),(3,[]),(4,[]),(5,[]),(6,[]),(7,[]),(8,[7]),(9,[7]),(10,[7])] [(0,[7])] (by kernel_rfl) (by kernel_rfl) (D6 Z Z (by kernel_rfl) Z Z (A5 Z Z) (D6 Z Z (by kernel_rfl) Z Z (A5 Z Z) (D6 Z Z (by kernel_rfl) Z Z (L3 Z) (D6 Z Z (by kernel_rfl) Z Z (M6 Z) (D6 Z Z (by kernel_rfl) Z Z (A23 Z Z (by first | rfl | omega) Z) ?_)))));refine D6 Z Z (by kernel_rfl) Z Z (D5 Z Z Z) (D6 Z Z (by kernel_rfl) Z Z (E4 (c:=rowC) (ys:=[r]) (F3 Z Z Z Z I6) Z Z Z) (V6 Z Z (by kernel_rfl) Z Z (A97 (fun frc hU=>v6 (T5 hU Z) Z (T5 hU Z) (.pure _ _ _ _) (by (simp;omega)) Z)) Z (D6 Z Z (by kernel_rfl) Z Z (L3 Z) (D6 Z Z (by kernel_rfl) Z Z (M6 Z) (V6 Z Z (by kernel_rfl) Z Z (C82 (fun frc hU=>E52 TySz.out (T5 hU Z) Z (by first | rfl | omega) (T5 hU Z) Z Z Z)) Z ?_)))));refine C81 (by kernel_rfl) rfl ?_ ?_
  ·refine K6 Z Z (by kernel_rfl) Z Z (A5 Z Z) ?_;exact C14
  refine k1 (k2 ?_)
  refine A4 (A3 (A5 Z Z) Z (A3 (A6 Z Z) Z (A7 ?_)))
  refine k1 (k10 ?_)
  exact G8 (R6 rfl rfl) (by repeat (first | exact C5 | refine tail_cons rfl ?_ | refine D3 _ ?_)) (ObIn.spec (ob':=W8 w d N hs a (rs++[r])) ⟨rfl,rfl,rfl,rfl,trivial⟩) ⟨rfl,rfl⟩
def F56 (w:Str) (d:Bool) (n:Int) (hs:List CHunk):Obs:=match hs.getLast? with
 | some h=>(match h.Rows with
  | []=>W7 w d n hs
  | _::_=>W8 w d n hs h.At h.Rows)
 | none=>W7 w d n hs
section
variable {P:Program} {nt:Nat} {fr:Fr} {w:Str} {d:Bool} {n:Int} {hs:List CHunk}
theorem shutC {h:CHunk} (hf:G3 732 fr=true) (hl:hs.getLast?=some h) (hne:h.Rows≠[]):Sees P nt fr (W8 w d n hs h.At h.Rows) fr (W7 w d n hs):=by
 have h1:=Sees.freezeG (P:=P) (nt:=nt) (fr:=fr) (ob:=W8 w d n hs h.At h.Rows) (k:=732) rfl rfl
 rw [F69 hf] at h1
 refine h1.trans ?_
 have hset:hs.set (hs.length - 1) h=hs:=by
  have h2:=E67 hl
  have hlen:hs.length - 1=hs.dropLast.length:=by rw [List.length_dropLast]
  conv=>lhs;rw [hlen];arg 1;rw [h2]
  rw [List.set_append_right _ _ (Nat.le_refl _),L51,List.set_cons_zero,←h2]
 have h3:=K85 (P:=P) (nt:=nt) (fr:=fr) (ob:=K64 (Ob.freeze 732 Row 3 rowC h.Rows) (Obs.drop 732 (W8 w d n hs h.At h.Rows))) 731 h rfl (by
  obtain ⟨a,ls⟩:=h
  cases ls with
  | nil=>exact absurd rfl hne
  | cons x r=>rfl)
 rw [hset] at h3
 refine h3.trans (K65 (ObIn.spec ⟨rfl,rfl,rfl,trivial⟩))
theorem openC2 {h:CHunk} (hf:G3 732 fr=true) (hl:hs.getLast?=some h) (hne:h.Rows=[]):Sees P nt fr (W7 w d n hs) fr (W8 w d n hs h.At []):=by
 have hv:hs[hs.length - 1]?=some h:=by rw [←List.getLast?_eq_getElem?];exact hl
 refine (K91 731 (hs.length - 1) (v:=h) Z hv).trans ?_
 have hcells:(cellsOf A67 h 0 2).map TC.p=[.p (.list Int 1 G6 h.At),.p (.v (.slice none 0 0))]:=by
  obtain ⟨a,ls⟩:=h
  have hne:ls=[]:=hne
  subst hne;rfl
 rw [hcells]
 refine (K87 732 Row 3 rowC 69 (kb:=731) (o:=1) Z Z (by rw [hf];rfl)).trans ?_
 exact K65 (ObIn.spec ⟨rfl,rfl,rfl,rfl,trivial⟩)
theorem G63 (hf:G3 732 fr=true):Sees P nt fr (F56 w d n hs) fr (W7 w d n hs):=by
 unfold F56
 cases hl:hs.getLast? with
 | none=>exact K65 fun _ _ h=>h
 | some h =>
  dsimp only
  cases hh:h.Rows with
  | nil=>exact K65 fun _ _ h=>h
  | cons x r =>
   dsimp only
   rw [←hh]
   exact shutC hf hl (by rw [hh];simp)
theorem toOpenC {h:CHunk} (hf:G3 732 fr=true) (hl:hs.getLast?=some h):Sees P nt fr (F56 w d n hs) fr (W8 w d n hs h.At h.Rows):=by
 unfold F56
 rw [hl]
 dsimp only
 cases hh:h.Rows with
 | nil=>dsimp only;exact openC2 hf hl hh
 | cons x r=>exact K65 fun _ _ h=>h
theorem ofShutC {a:List Int}:F56 w d n (hs++[⟨a,[]⟩])=W7 w d n (hs++[⟨a,[]⟩]):=by unfold F56;simp
theorem I87 {h:CHunk} {ls:List Row} (hl:hs.getLast?=some h) (hne:ls≠[]):Sees P nt fr (W8 w d n hs h.At ls) fr (F56 w d n (hs.dropLast++[⟨h.At,ls⟩])):=by
 have h2:=E67 hl
 have hlen:(hs.dropLast++[(⟨h.At,ls⟩:CHunk)]).length=hs.length:=by
  conv=>rhs;rw [h2]
  simp
 have hO:F56 w d n (hs.dropLast++[⟨h.At,ls⟩])=W8 w d n (hs.dropLast++[⟨h.At,ls⟩]) h.At ls:=by
  unfold F56
  cases ls with
  | nil=>exact absurd rfl hne
  | cons x r=>simp
 rw [hO]
 have h3:=Sees.reA (P:=P) (nt:=nt) (fr:=fr) (ob:=W8 w d n hs h.At ls) 731 (hs.dropLast++[⟨h.At,ls⟩]) rfl hlen (by
  intro i hi
  have hd:hs.dropLast.length=hs.length - 1:=by rw [List.length_dropLast]
  rcases Nat.lt_or_ge i (hs.length - 1) with h4 | h4
  ·rw [L10 (by omega)]
   conv=>rhs;rw [h2]
   rw [L10 (by omega)]
  ·rw [L19 (by omega),L19 (by omega)])
 rw [show (hs.length - 1)=(hs.dropLast++[(⟨h.At,ls⟩:CHunk)]).length - 1 by rw [hlen]] at h3
 exact h3.trans (K65 (ObIn.spec ⟨rfl,rfl,rfl,rfl,trivial⟩))
end
theorem I31 {x:CHunk} (j:Nat) (rd:Rd) (u:Value) (h:(A67 x j).rep rd u):(L2 x j).rep rd u:=by
 match j with
 | 0=>exact h
 | j+1 =>
  obtain ⟨a,ls⟩:=x
  cases ls with
  | nil =>
   have h:(Cell.v (.slice none 0 0)).rep rd u:=h
   obtain ⟨rfl,_⟩:=h
   exact N8 _ _ _
  | cons y r=>exact h
def Z5 (l:List Str):List PV:=match Z1 l with
 | some p=>[N4 p,E3 true]
 | none=>[N4 comb0,E3 false]
set_option maxHeartbeats 4000000
theorem J48 (l:List Str) (hw:(l.map A49).sum≤268435456) (hsz:∀s∈l,s.length≤4194304):FnOk Tryz.prog 83 [m6 l] (fun rs=>rs=Z5 l):=by
 have hll:420*l.length≤(l.map A49).sum:=by
  clear hw hsz
  induction l with
  | nil=>simp
  | cons x r ih =>
   have e:A49 x=420*(x.length+1):=rfl
   simp only [L04,L29,K99,e];omega
 by_cases hlen:l.length < 2
 ·have hp:Z1 l=none:=by
   match l,hlen with
   | [],_=>rfl
   | [_],_=>rfl
  have hb:decide ((l.length:Int) < 2)=true:=decide_eq_true (by omega)
  refine FnOk.intro Tryz.func83 (by decide) Z Z Z Z ?_
  refine k2 ?_
  refine A4 (C7 (F9 2 Z) Z (A3 (A6 Z Z) Z (A7 ?_)))
  refine k1 (k2 ?_)
  refine A4 (A3 (G4 Z) Z (C7 (R1 730 Z Z Z) Z (A3 (A6 Z Z) Z (A7 ?_))))
  refine k1 (k2 (k2 ?_))
  refine D4 (by kernel_rfl) (by kernel_rfl) (B1 (A5 Z Z) Z Z (B1 (F1 Z (.pure _ _ _ _)) Z Z (B1 (E6 Z Z) Z Z (B1 (A5 Z Z) Z Z (A62 Z Z (by rw [hb];decide) Z Z ?_)))));refine A62 Z Z (by rw [hb];decide) Z Z ?_;refine A62 Z Z (by rw [hb];decide) Z Z ?_;refine A62 Z Z (by rw [hb];decide) Z Z ?_;refine A62 Z Z (by rw [hb];decide) Z Z ?_;refine A62 Z Z (by rw [hb];decide) Z Z ?_;refine A62 Z Z (by rw [hb];decide) Z Z ?_;refine A62 Z Z (by rw [hb];decide) Z Z ?_;refine A62 Z Z (by rw [hb];decide) Z Z ?_;refine B1 (J91 Z (hb) Z) Z Z (L4 ?_)
  refine k1 ?_
  refine B4 rfl (fun ht=>?_) (fun ht=>?_)
  rotate_left
  ·cases ht
  refine k2 ?_
  refine A4 (A3 (G4 Z) Z (E5 (B7 TySz.out Z Z Z Z Z Z) (A3 (A6 Z Z) Z (A7 ?_))))
  refine k1 ?_
  refine E8 (K62 CHunk 2 L2 2 3 Z Z) ?_
  refine k10 (k11 ?_)
  exact B8 (rs:=[N4 comb0,E3 false]) (U0 rfl rfl rfl rfl rfl rfl rfl) (by unfold Z5;rw [hp])
 obtain ⟨l0,l1,R,rfl⟩:∃a b r,l=a::b::r:=by
  match l,hlen with
  | a::b::r,_=>exact ⟨a,b,r,rfl⟩
  | [],h=>exact absurd (by simp) h
  | [_],h=>exact absurd (by simp) h
 have z0:=hsz l0 (by simp)
 have z1:=hsz l1 (by simp)
 have hWR:(R.map A49).sum≤268435456:=by simp only [L04,L29] at hw;omega
 have hRl:R.length≤16777216:=by simp only [K99] at hll;omega
 clear hw hll
 have hb:decide (((l0::l1::R).length:Int) < 2)=false:=decide_eq_false (by simp only [K99];omega)
 have hg0:(l0::l1::R)[(0:Int).toNat]?=some l0:=rfl
 have hg1:(l0::l1::R)[(1:Int).toNat]?=some l1:=rfl
 have hm:=fun gf=>I29 (gf:=gf) l0 l1 z0 z1
 cases hT:s6 true l0 l1 with
 | none =>
  rw [hT] at hm
  have hp:Z1 (l0::l1::R)=none:=by unfold Z1;dsimp only;rw [hT]
  refine FnOk.intro Tryz.func83 (by decide) Z Z Z Z ?_
  refine k2 ?_
  refine A4 (C7 (F9 2 Z) Z (A3 (A6 Z Z) Z (A7 ?_)))
  refine k1 (k2 ?_)
  refine A4 (A3 (G4 Z) Z (C7 (R1 730 Z Z Z) Z (A3 (A6 Z Z) Z (A7 ?_))))
  refine k1 (k2 (k2 ?_))
  refine B52 11 (by kernel_rfl) (by kernel_rfl) Z (B1 (A5 Z Z) Z Z (B1 (F1 Z (.pure _ _ _ _)) Z Z (B1 (E6 Z Z) Z Z (B1 (A5 Z Z) Z Z (C05 Z Z hb Z (B1 (A5 Z Z) Z Z (C05 Z Z hb Z (B1 (A5 Z Z) Z Z (C05 Z Z hb Z (B1 (B9 Z (.pure _ _ _ _) Z (by omega) hg0) Z Z (C05 Z Z hb Z (B1 (C8 Z Z) Z Z (C05 Z Z hb Z (B1 (A5 Z Z) Z Z (C05 Z Z hb Z (B1 (B9 Z (.pure _ _ _ _) Z (by omega) hg1) Z Z (C05 Z Z hb Z (B1 (C8 Z Z) Z Z (L4 (F79 Z Z hb (C74 (hm _) Z Z Z ?_)))))))))))))))))))));rintro _ _ ⟨w,d,n,ok,rfl,rfl,rfl⟩;refine ⟨_,rfl,?_⟩;refine C05 Z Z hb Z (B1 (F0 Z) Z Z (B1 (C75 Z (hb) Z) Z Z (L4 ?_)))
  refine k1 ?_
  refine B4 rfl (fun ht=>?_) (fun ht=>?_)
  rotate_left
  ·cases ht
  refine k2 ?_
  refine A4 (A3 (G4 Z) Z (E5 (B7 TySz.out Z Z Z Z Z Z) (A3 (A6 Z Z) Z (A7 ?_))))
  refine k1 ?_
  refine E8 (K62 CHunk 2 L2 2 3 Z Z) ?_
  refine k10 (k11 ?_)
  exact B8 (rs:=[N4 comb0,E3 false]) (U0 rfl rfl rfl rfl rfl rfl rfl) (by unfold Z5;rw [hp])
 | some q =>
  obtain ⟨d,w,n⟩:=q
  rw [hT] at hm
  have hn:=F99 hT
  obtain ⟨N,rfl⟩:∃N:Nat,n=N:=⟨n.toNat,by omega⟩
  have hN:1≤N∧N≤32:=by omega
  have hPs:∀hs,Z0 N [] R=some hs→[N4 ⟨w,d,N,hs⟩,E3 true]=Z5 (l0::l1::R):=by
   intro hs h
   have:Z1 (l0::l1::R)=some ⟨w,d,N,hs⟩:=by unfold Z1;dsimp only;rw [hT];dsimp only;rw [L01,h]
   unfold Z5;rw [this]
  have hnone:Z0 N [] R=none→[N4 comb0,E3 false]=Z5 (l0::l1::R):=by
   intro h
   have:Z1 (l0::l1::R)=none:=by unfold Z1;dsimp only;rw [hT];dsimp only;rw [L01,h]
   unfold Z5;rw [this]
  refine FnOk.intro Tryz.func83 (by decide) Z Z Z Z ?_
  refine k2 ?_
  refine A4 (C7 (F9 2 Z) Z (A3 (A6 Z Z) Z (A7 ?_)))
  refine k1 (k2 ?_)
  refine A4 (A3 (G4 Z) Z (C7 (R1 730 Z Z Z) Z (A3 (A6 Z Z) Z (A7 ?_))))
  refine k1 (k2 (k2 ?_))
  refine B52 11 (by kernel_rfl) (by kernel_rfl) Z (B1 (A5 Z Z) Z Z (B1 (F1 Z (.pure _ _ _ _)) Z Z (B1 (E6 Z Z) Z Z (B1 (A5 Z Z) Z Z (C05 Z Z hb Z (B1 (A5 Z Z) Z Z (C05 Z Z hb Z (B1 (A5 Z Z) Z Z (C05 Z Z hb Z (B1 (B9 Z (.pure _ _ _ _) Z (by omega) hg0) Z Z (C05 Z Z hb Z (B1 (C8 Z Z) Z Z (C05 Z Z hb Z (B1 (A5 Z Z) Z Z (C05 Z Z hb Z (B1 (B9 Z (.pure _ _ _ _) Z (by omega) hg1) Z Z (C05 Z Z hb Z (B1 (C8 Z Z) Z Z (L4 (F79 Z Z hb (C74 (hm _) Z Z Z ?_)))))))))))))))))))));rintro _ _ ⟨w',d',n',ok,rfl,rfl,rfl,rfl,rfl,rfl⟩;refine ⟨_,rfl,?_⟩;refine C05 Z Z hb Z (B1 (F0 Z) Z Z (B1 (C75 Z (hb) Z) Z Z (L4 ?_)))
  refine k1 ?_
  refine B4 rfl (fun ht=>?_) (fun ht=>?_)
  ·cases ht
  refine k5 (k1 (k2 (k2 ?_)))
  refine A4 (A3 (A5 Z Z) Z (A3 (A71 Z (.pure _ _ _ _) Z (by (first | omega | (simp only [K99];omega))) (by (first | omega | (simp only [K99];omega)))) Z (A3 (F1 Z (.pure _ _ _ _)) Z (A3 (A5 Z Z) Z (A7 ?_)))))
  refine k1 (k3 ?_)
  refine E8 (K75 731 CHunk 2 A67 82 (kb:=730) (o:=3) Z Z Z) ?_
  refine E1 (X:=Nat × List CHunk) (fun x=>([(4,.s (.one (.ref 730 0))),(2,.s (.one (.ref 2 0))),(25,D2 Str 1 M1 R),(26,C0 R.length),(27,C0 x.1)],F56 w' d' N x.2)) (fun x=>x.1≤R.length∧CInv N x.2∧szC x.2≤wgTo R x.1∧Z0 N x.2 (R.drop x.1)=Z0 N [] R) (fun x=>R.length - x.1) (0,[]) ⟨Nat.zero_le _,(fun h hh=>(by cases hh)),(by simp [szC]),rfl⟩ (K60 ⟨le1 rfl,le1 rfl,le1 rfl,le1 rfl,le1 rfl,trivial⟩ ⟨rfl,rfl,rfl,trivial⟩) ?_
  rintro ⟨k,hs⟩ ⟨hk,hci,hz,hf⟩
  dsimp only at hk hci hz hf ⊢
  have hzb:wgTo R k≤(R.map A49).sum:=by
   unfold wgTo
   conv=>rhs;rw [←L35 k R,L14,L39]
   omega
  have hsl:=C03 hs
  refine k2 ?_
  refine A4 (A3 (E6 Z Z) Z (A7 ?_))
  refine k1 (k2 ?_)
  refine B4 rfl (fun ht=>?_) (fun ht=>?_)
  ·have hlt:k < R.length:=by have:=A0 ht;omega
   obtain ⟨x,hx⟩:∃x,x=R[k]:=⟨_,rfl⟩
   have hv:R[k]?=some x:=by rw [hx];simp [hlt]
   have hxz:=hsz x (by simp [L13 hv])
   have hwk:=J41 hlt
   rw [←hx] at hwk
   rw [L03 hlt,←hx,Z0] at hf
   have hstep:∀{g},U8 N hs x=some g→Z0 N g (R.drop (k+1))=Z0 N [] R∧szC g≤wgTo R (k+1)∧CInv N g:=by
    intro g hg
    rw [hg] at hf
    have h3:=H34 hN hg hci
    exact ⟨hf,by omega,h3.2⟩
   have hfail:U8 N hs x=none→Z0 N [] R=none:=by intro h;rw [h] at hf;exact hf.symm
   clear hf hx
   refine k5 (k1 (k2 (k3 (k2 ?_))))
   refine A4 (A3 (B9 Z (.pure _ _ _ _) Z (by omega) hv) Z (A3 (C8 Z Z) Z (A3 (A6 Z Z) Z (A7 ?_))))
   refine k1 (k2 ?_)
   by_cases h64:x.take 1=[64]
   ·refine E8 (G63 Z) ?_
    refine K4 [(4,.s (.one (.ref 730 0))),(2,.s (.one (.ref 2 0))),(25,D2 Str 1 M1 R),(26,C0 R.length),(27,C0 k),(6,J3 x)] (W7 w' d' N hs) (K60 ⟨le1 rfl,le1 rfl,le1 rfl,le1 rfl,le1 rfl,le1 rfl,trivial⟩ ⟨rfl,rfl,rfl,trivial⟩) ?_
    have hm:=K18 x R k w' d' N hs hN (by omega) hxz h64
    cases hh:A40 N x with
    | none =>
     rw [hh] at hm
     have hst:U8 N hs x=none:=by unfold U8;rw [if_pos h64,hh]
     refine A4 (A3 (A5 Z Z) Z (A3 (A5 Z Z) Z (T3 (hm) Z Z Z ?_)));rintro _ _ ⟨rfl,rfl⟩;refine A3 (F0 Z) Z (A7 ?_)
     refine k1 ?_
     refine B4 rfl (fun ht=>?_) (fun ht=>?_)
     ·refine k2 ?_
      refine A4 (A3 (G4 Z) Z (E5 (B7 TySz.out Z Z Z Z Z Z) (A3 (A6 Z Z) Z (A7 ?_))))
      refine k1 ?_
      refine E8 (K62 CHunk 2 L2 2 3 Z Z) ?_
      refine k10 (k12 (k11 (k11 (k12 (k11 ?_)))))
      exact B8 (rs:=[N4 comb0,E3 false]) (U0 rfl rfl rfl rfl rfl rfl rfl) (hnone (hfail hst))
     ·cases ht
    | some a =>
     rw [hh] at hm
     have hst:U8 N hs x=some (hs++[⟨a,[]⟩]):=by unfold U8;rw [if_pos h64,hh]
     obtain ⟨s1,s2,s3⟩:=hstep hst
     refine A4 (A3 (A5 Z Z) Z (A3 (A5 Z Z) Z (T3 (hm) Z Z Z ?_)));rintro _ _ ⟨rfl,rfl⟩;refine A3 (F0 Z) Z (A7 ?_)
     refine k1 ?_
     refine B4 rfl (fun ht=>?_) (fun ht=>?_)
     ·cases ht
     refine k5 (k4 (k1 ?_))
     refine A4 (A3 (C6 Z Z (by omega)) Z (A3 (A5 Z Z) Z (A7 ?_)))
     refine k1 ?_
     refine ⟨(k+1,hs++[⟨a,[]⟩]),⟨hlt,s3,s2,s1⟩,by dsimp only;omega,?_⟩
     dsimp only
     rw [ofShutC]
     exact K60 ⟨le1 rfl,le1 rfl,le1 rfl,le1 rfl,le1 rfl,trivial⟩ ⟨rfl,rfl,rfl,trivial⟩
   cases hl:hs.getLast? with
   | none =>
    have hn0:hs=[]:=List.getLast?_eq_none_iff.1 hl
    subst hn0
    have hst:U8 N [] x=none:=by unfold U8;rw [if_neg h64,if_pos rfl]
    have hm:=J45 x R k w' d' N h64
    refine E8 (G63 Z) ?_
    refine K4 [(4,.s (.one (.ref 730 0))),(2,.s (.one (.ref 2 0))),(25,D2 Str 1 M1 R),(26,C0 R.length),(27,C0 k),(6,J3 x)] (W7 w' d' N []) (K60 ⟨le1 rfl,le1 rfl,le1 rfl,le1 rfl,le1 rfl,le1 rfl,trivial⟩ ⟨rfl,rfl,rfl,trivial⟩) ?_
    refine A4 (A3 (A5 Z Z) Z (A3 (A5 Z Z) Z (T3 (hm) Z Z Z ?_)));rintro _ _ ⟨rfl,rfl⟩;refine A3 (F0 Z) Z (A7 ?_)
    refine k1 ?_
    refine B4 rfl (fun ht=>?_) (fun ht=>?_)
    ·refine k2 ?_
     refine A4 (A3 (G4 Z) Z (E5 (B7 TySz.out Z Z Z Z Z Z) (A3 (A6 Z Z) Z (A7 ?_))))
     refine k1 ?_
     refine E8 (K62 CHunk 2 L2 2 3 Z Z) ?_
     refine k10 (k12 (k11 (k11 (k12 (k11 ?_)))))
     exact B8 (rs:=[N4 comb0,E3 false]) (U0 rfl rfl rfl rfl rfl rfl rfl) (hnone (hfail hst))
    ·cases ht
   | some h =>
    have hne:hs≠[]:=by intro e;rw [e] at hl;cases hl
    have h0:0 < hs.length:=List.length_pos_iff.2 hne
    have hmem:=C02 (List.mem_of_getLast? hl)
    have hrl:=j6 h.Rows
    have hmem2:(h.Rows.map Q6).sum≤szC hs:=by
     rw [B93] at hmem;omega
    refine E8 (toOpenC Z hl) ?_
    refine K4 [(4,.s (.one (.ref 730 0))),(2,.s (.one (.ref 2 0))),(25,D2 Str 1 M1 R),(26,C0 R.length),(27,C0 k),(6,J3 x)] (W8 w' d' N hs h.At h.Rows) (K60 ⟨le1 rfl,le1 rfl,le1 rfl,le1 rfl,le1 rfl,le1 rfl,trivial⟩ ⟨rfl,rfl,rfl,rfl,trivial⟩) ?_
    by_cases hno:x=noNl
    ·subst hno
     have hm:=J46 R k w' d' N hs h.At h.Rows h0 (by omega) (by omega) (fun r hr=>by
      have h5:=D59 hr
      have h6:Q6 r=r.Text.length+96:=rfl
      omega)
     cases hx2:h.Rows.getLast? with
     | none =>
      rw [hx2] at hm
      have hst:U8 N hs noNl=none:=by
       unfold U8;rw [if_neg h64,if_neg hne,if_pos rfl];unfold F10;rw [hl];dsimp only;rw [hx2]
      refine A4 (A3 (A5 Z Z) Z (A3 (A5 Z Z) Z (T3 (hm) Z Z Z ?_)));rintro _ _ ⟨rfl,rfl⟩;refine A3 (F0 Z) Z (A7 ?_)
      refine k1 ?_
      refine B4 rfl (fun ht=>?_) (fun ht=>?_)
      ·refine k2 ?_
       refine A4 (A3 (G4 Z) Z (E5 (B7 TySz.out Z Z Z Z Z Z) (A3 (A6 Z Z) Z (A7 ?_))))
       refine k1 ?_
       refine E8 (K62 CHunk 2 L2 2 3 Z Z) ?_
       refine k10 (k12 (k11 (k11 (k12 (k11 ?_)))))
       exact B8 (rs:=[N4 comb0,E3 false]) (U0 rfl rfl rfl rfl rfl rfl rfl) (hnone (hfail hst))
      ·cases ht
     | some r =>
      rw [hx2] at hm
      have hst:U8 N hs noNl=some (hs.dropLast++[⟨h.At,h.Rows.dropLast++[⟨r.Lost,r.Marks,B75 r.Text⟩]⟩]):=by
       unfold U8;rw [if_neg h64,if_neg hne,if_pos rfl];unfold F10;rw [hl];dsimp only;rw [hx2]
      obtain ⟨s1,s2,s3⟩:=hstep hst
      refine A4 (A3 (A5 Z Z) Z (A3 (A5 Z Z) Z (T3 (hm) Z Z Z ?_)));rintro _ _ ⟨rfl,rfl⟩;refine A3 (F0 Z) Z (A7 ?_)
      refine k1 ?_
      refine B4 rfl (fun ht=>?_) (fun ht=>?_)
      ·cases ht
      refine k5 (k4 (k1 ?_))
      refine A4 (A3 (C6 Z Z (by omega)) Z (A3 (A5 Z Z) Z (A7 ?_)))
      refine k1 ?_
      refine ⟨(k+1,hs.dropLast++[⟨h.At,h.Rows.dropLast++[⟨r.Lost,r.Marks,B75 r.Text⟩]⟩]),⟨hlt,s3,s2,s1⟩,by dsimp only;omega,?_⟩
      refine Sees.trans ?_ (I87 hl (by simp))
      exact K60 ⟨le1 rfl,le1 rfl,le1 rfl,le1 rfl,le1 rfl,trivial⟩ ⟨rfl,rfl,rfl,rfl,trivial⟩
    ·have hm:=J47 x R k w' d' N hs h.At h.Rows h0 (by omega) (by omega) hxz h64 hno
     have hro:AL.rowAt (x++[10]) N=A44 (x++[10]) (N:Int):=by unfold A44;rw [if_neg (by omega),L01]
     cases hr:A44 (x++[10]) (N:Int) with
     | none =>
      rw [hr] at hm hro
      have hst:U8 N hs x=none:=by unfold U8;rw [if_neg h64,if_neg hne,if_neg hno,hro]
      refine A4 (A3 (A5 Z Z) Z (A3 (A5 Z Z) Z (T3 (hm) Z Z Z ?_)));rintro _ _ ⟨rfl,rfl⟩;refine A3 (F0 Z) Z (A7 ?_)
      refine k1 ?_
      refine B4 rfl (fun ht=>?_) (fun ht=>?_)
      ·refine k2 ?_
       refine A4 (A3 (G4 Z) Z (E5 (B7 TySz.out Z Z Z Z Z Z) (A3 (A6 Z Z) Z (A7 ?_))))
       refine k1 ?_
       refine E8 (K62 CHunk 2 L2 2 3 Z Z) ?_
       refine k10 (k12 (k11 (k11 (k12 (k11 ?_)))))
       exact B8 (rs:=[N4 comb0,E3 false]) (U0 rfl rfl rfl rfl rfl rfl rfl) (hnone (hfail hst))
      ·cases ht
     | some r =>
      rw [hr] at hm hro
      have hst:U8 N hs x=some (hs.dropLast++[⟨h.At,h.Rows++[r]⟩]):=by unfold U8;rw [if_neg h64,if_neg hne,if_neg hno,hro];dsimp only;unfold G86;rw [hl]
      obtain ⟨s1,s2,s3⟩:=hstep hst
      refine A4 (A3 (A5 Z Z) Z (A3 (A5 Z Z) Z (T3 (hm) Z Z Z ?_)));rintro _ _ ⟨rfl,rfl⟩;refine A3 (F0 Z) Z (A7 ?_)
      refine k1 ?_
      refine B4 rfl (fun ht=>?_) (fun ht=>?_)
      ·cases ht
      refine k5 (k4 (k1 ?_))
      refine A4 (A3 (C6 Z Z (by omega)) Z (A3 (A5 Z Z) Z (A7 ?_)))
      refine k1 ?_
      refine ⟨(k+1,hs.dropLast++[⟨h.At,h.Rows++[r]⟩]),⟨hlt,s3,s2,s1⟩,by dsimp only;omega,?_⟩
      refine Sees.trans ?_ (I87 hl (by simp))
      exact K60 ⟨le1 rfl,le1 rfl,le1 rfl,le1 rfl,le1 rfl,trivial⟩ ⟨rfl,rfl,rfl,rfl,trivial⟩
  ·have hk2:k=R.length:=by have:=A1 ht;omega
   subst hk2
   rw [L07 (Nat.le_refl _)] at hf
   have hf:some hs=Z0 N [] R:=hf
   refine k6 (k2 ?_)
   refine E8 (G63 Z) ?_
   refine E8 (K86 731 L2 Z (fun x _ j _ rd u=>I31 j rd u)) ?_
   refine E8 (Sees.freezeG (k:=731) Z Z) ?_
   refine K4 [(4,.s (.one (.ref 730 0))),(2,.s (.one (.ref 2 0)))] [(730,.box [.p (.v (.string ⟨w'.toArray⟩)),.p (.v (.bool d')),.p (.v (.int .i64 N)),.p (.list CHunk 2 L2 hs)]),(2,T7)] (K60 ⟨le1 rfl,le1 rfl,trivial⟩ ⟨rfl,rfl,trivial⟩) ?_
   refine A4 (A3 (A5 Z Z) Z (A3 (B2 Z) Z (A3 (A8 Z) Z (A3 (D5 Z Z Z) Z (E5 (B7 TySz.out Z Z Z Z Z Z) (A3 (A6 Z Z) Z (A7 ?_)))))))
   refine k1 (k10 ?_)
   exact B8 (rs:=[N4 ⟨w',d',N,hs⟩,E3 true]) (U0 rfl rfl rfl rfl rfl rfl rfl) (hPs hs hf.symm)
end Go.Proofs.YtgejaedjnbjpoaaGreatDoor
